import Derived.Test.YtmbppohkadmjgaaGreatM20
import Derived.Test.YtmbppohkadmjgaaGreatM18
import Derived.Test.YtmbppohkadmjgaaGreatM21b
namespace Go.Sx
def repF (s : Sd) (r : Stt) (k : Nat) : List Un × Bool := (s.units.take k).foldl (repStep s (s.place r.upto) r.miss) ([], false)
theorem repF_step {s : Sd} {r : Stt} {k : Nat} (h : k < s.units.length) : repF s r (k + 1) = repStep s (s.place r.upto) r.miss (repF s r k) s.units[k] := by
 rw [repF, List.take_succ_eq_append_getElem h, List.foldl_append]; rfl
theorem repStep_len (s : Sd) (t : Int) (M : List Rg) (p : List Un × Bool) (u : Un) : (repStep s t M p u).1.length <= p.1.length + 1 := by
 unfold repStep
 split
 ·simp
 ·split
  ·split
   ·split <;> simp
   ·simp
  ·split
   ·omega
   ·simp
theorem repF_len {s : Sd} {r : Stt} : ∀ {k : Nat}, k <= s.units.length -> (repF s r k).1.length <= k
 | 0, _ => by simp [repF]
 | k + 1, h => by
  rw [repF_step (by omega)]
  have := repStep_len s (s.place r.upto) r.miss (repF s r k) (s.units[k]'(by omega))
  have := repF_len (s := s) (r := r) (k := k) (by omega)
  omega
end Go.Sx
namespace Go.Proofs.YtmbppohkadmjgaaGreat
open Go.Sx Go.RowKit
set_option maxRecDepth 100000

def FromL (L O : List UP) : Prop := ∀ y ∈ O, ∃ x ∈ L, (y.a = x.a /\ y.c = x.c) /\ y.u.data = x.u.data
theorem fromL_dat {L O : List UP} {w : World} (h : FromL L O) (hd : DatR L w) : DatR O w := fun y hy => by
 obtain ⟨x, hx, h1, h2⟩ := h y hy
 rw [h1.1, h1.2, h2]; exact hd x hx
theorem fromL_snoc {L O : List UP} {x v : UP} (h : FromL L O) (hx : x ∈ L) (h1 : v.a = x.a /\ v.c = x.c) (h2 : v.u.data = x.u.data) : FromL L (O ++ [v]) := fun y hy => by
 rcases List.mem_append.1 hy with hy | hy
 ·exact h y hy
 ·simp at hy; subst hy; exact ⟨x, hx, h1, h2⟩

theorem sender_Report_ct {s : Sd} {r : Stt} {a ma : Option Addr} {c mc : Nat} {w : World} (hu : UnR w a s.units) (hl : SmU s.units) (hM : SlR (CE encR) 3 w ma r.miss) (hml : r.miss.length <= 1000000) :
 Calls Tryz.prog N_sender_Report #[aggS s a c, (.agg #[.int .i64 r.upto, .slice ma r.miss.length mc])] w (RetO w (repS s r).1 (repS s r).2) := by
 apply F_sender_Report_ok
 unfold F_sender_Report
 have H := St.nil w
 refine H.alloc ?_; clear H; intro b0 w1 H1
 refine H1.alloc ?_; clear H1; intro b1 w2 H2
 refine H2.alloc ?_; clear H2; intro b2 w3 H3
 simp only [List.cons_append, List.nil_append] at H3
 replace H3 : St (fun _ => False) [] w w3 [.blk b0 Ty_api_Sender (encSd s a c), .blk b1 Ty_api_Status [.int .i64 r.upto, .slice ma r.miss.length mc], .blk b2 Ty_api_Sender (encSd .zero none 0)] (fun _ => True) := H3
 refine ⟨fun w8 => St (fun _ => False) [] w w8 [.blk b0 Ty_api_Sender (encSd s a c), .blk b1 Ty_api_Status [.int .i64 r.upto, .slice ma r.miss.length mc], .blk b2 Ty_api_Sender (encSd .zero none 0)] (fun _ => True) /\ s.okB = true /\ okS s.lk.bits r, ?_, ?_⟩
 ·rintro _  w8 ⟨H8, hok, hst⟩
  refine ⟨_, _, _, _, _, _, _, _, _, _, _, _, _, _, _, H8.cells (i := 0) rfl, ?_⟩
  refine (sender_begin_ct (unR_below hu H8.below) hl).mono ?_
  have hno : ¬ (s.okB = false \/ ¬ okS s.lk.bits r) := fun h => by
   rcases h with h | h
   ·rw [hok] at h; cases h
   ·exact h hst
  rw [repS, if_neg hno]
  rintro _ w9 (⟨hE, rfl, hb9⟩ | ⟨hE, b, ua, uc, L, hL, rfl, K9⟩)
  ·have H9 := H8.pass hb9; clear H8
   have hfa : s.failed = true := by
    unfold begE at hE
    rw [if_neg (by rw [hok]; decide)] at hE
    split at hE
    ·assumption
    ·exact absurd rfl hE
   have hE16 : begE s = 16 := by rw [begE, if_neg (by rw [hok]; decide), if_pos hfa]
   refine ⟨_, _, rfl, ?_⟩
   refine bsplit_nd (fun _ => ?_) (fun h => absurd h hE)
   rw [if_pos hfa, hE16]
   exact retZ H9 (i := 2) rfl rfl
  have H9 := H8.callF K9; clear H8
  refine ⟨_, _, rfl, ?_⟩
  refine bsplit_nd (fun h => absurd rfl h) (fun _ => ?_)
  obtain ⟨-, hfa⟩ := begE_ok hE
  rw [if_neg (by rw [hfa]; decide)]
  obtain ⟨⟨hf1, hf2⟩, hlk, hsf, hsn, hall⟩ := okB_fit hok
  have hlen : L.length = s.units.length := by rw [<- hL, List.length_map]
  have hb := hlk.1
  simp only [List.cons_append, List.nil_append] at H9
  refine H9.ld (i := 1) rfl rfl ?_
  refine (place_cells (H9.cells (i := 3) rfl) hb).mono ?_
  rintro _ w11 ⟨rfl, hb11⟩; have H11 := H9.pass hb11; clear H9
  refine ⟨_, rfl, ?_⟩
  refine kNil_in ?_
  rw [add_mk]
  refine H11.ld (i := 3) rfl rfl ?_
  refine (place_cells (H11.cells (i := 3) rfl) hb).mono ?_
  rintro _ w12 ⟨rfl, hb12⟩; have H12 := H11.pass hb12; clear H11
  refine ⟨_, rfl, ?_⟩
  refine bsplit_dec (fun c11 => ?_) (fun c11 => ?_)
  ·rw [if_pos c11]
   exact retZ H12 (i := 2) rfl rfl
  rw [if_neg c11]
  obtain ⟨t, ht⟩ : ∃ t : Sd, t = { s with poll := if s.poll ≠ -1 /\ s.place s.poll < s.place r.upto then -1 else s.poll, left := if s.poll ≠ -1 /\ s.place s.poll < s.place r.upto then 0 else s.left } := ⟨_, rfl⟩
  refine ⟨fun w17 => St (fun _ => False) [] w w17 (.blk b0 Ty_api_Sender (encSd s a c) :: .blk b1 Ty_api_Status [.int .i64 r.upto, .slice ma r.miss.length mc] :: .blk b2 Ty_api_Sender (encSd .zero none 0) :: .blk b Ty_sender_side (encSd t ua uc) :: .els encUP Ty_api_Unit 5 ua uc L :: L.map agR) (fun w => DatR L w /\ True), ?_, ?_⟩
  ·rintro _  w17 H17
   have htu : t.units = s.units := by rw [ht]
   have htl : t.lk = s.lk := by rw [ht]
   have htf : t.first = s.first := by rw [ht]
   have htn : t.next = s.next := by rw [ht]
   have htfa : t.failed = false := by rw [ht]; exact hfa
   refine kNil_in ?_
   rw [add_mk]
   refine H17.ldS (i := 3) rfl rfl ?_
   have H17 := (H17.nilE encUP Ty_api_Unit 5)
   have H17 := St.lastTo (X := [_, _, _, _, _]) H17
   simp only [List.cons_append, List.nil_append] at H17
   have hb' : bitsOk t.lk.bits := by rw [htl]; exact hb
   have hpl : ∀ (fl : Bool) (n : Int), ({ t with failed := fl } : Sd).place n = s.place n := fun fl n => by rw [ht]; rfl
   have e0 : ({ t with failed := false } : Sd) = t := by rw [ht] at htfa ⊢; cases s; simp at htfa ⊢; exact htfa
   refine ⟨fun left_a left_l left_c x => ((s.units.length - x).toNat, fun w18 => ∃ (k : Nat) (O : List UP), x = k /\ k <= s.units.length /\ left_l = O.length /\ O.map (·.u) = (repF s r k).1 /\ FromL L O /\
    St (fun _ => False) [] w w18 (.blk b0 Ty_api_Sender (encSd s a c) :: .blk b1 Ty_api_Status [.int .i64 r.upto, .slice ma r.miss.length mc] :: .blk b2 Ty_api_Sender (encSd .zero none 0) :: .blk b Ty_sender_side (encSd { t with failed := (repF s r k).2 } ua uc) :: .els encUP Ty_api_Unit 5 ua uc L :: .els encUP Ty_api_Unit 5 left_a left_c O :: (O.map agR ++ (L.drop k).map agR)) (DatR L)),
    ⟨0, [], rfl, by omega, rfl, rfl, fun y hy => by simp at hy, by
     have : (repF s r 0).2 = false := rfl
     rw [this, e0]; exact H17.imp fun _ h => h.1⟩, ?_⟩
   clear H17
   rintro _ left_a left_l left_c x11 w18 ⟨k, O, rfl, hk, rfl, hO, hF, H18⟩
   rw [show t.units.length = s.units.length by rw [htu]]
   have hOl : O.length <= k := by have := repF_len (s := s) (r := r) hk; rw [<- hO, List.length_map] at this; exact this
   refine bsplit_dec (fun c10 => ?_) (fun c10 => ?_)
   ·have hlt : k < s.units.length := by omega
    have hkL : k < L.length := by omega
    obtain ⟨x, hx⟩ : ∃ x, x = L[k] := ⟨_, rfl⟩
    have hxm : x ∈ L := by rw [hx]; exact List.getElem_mem _
    have hxu : s.units[k] = x.u := by rw [hx]; simp [<- hL]
    have hmu : x.u ∈ s.units := by rw [<- hxu]; exact List.getElem_mem _
    have hstep := repF_step (r := r) hlt
    rw [hxu] at hstep
    have hdr : L.drop k = x :: L.drop (k + 1) := by rw [List.drop_eq_getElem_cons hkL, <- hx]
    rw [hdr, List.map_cons] at H18
    have htr := unB_sent (hall x.u hmu).1
    have htr0 := hlk.2.2.2.2.2
    obtain ⟨f, hf⟩ : ∃ f, f = (repF s r k).2 := ⟨_, rfl⟩
    rw [<- hf] at H18
    obtain ⟨p, hp⟩ : ∃ p, p = repF s r k := ⟨_, rfl⟩
    rw [<- hp] at hstep hO hf
    obtain ⟨g, hg, hg1, hg2⟩ := H18.rowSome (i := 4) rfl (by omega)
    subst hg
    refine kIx_at ⟨by omega, by omega⟩ ?_
    simp only [elA0]
    have cx := H18.cellsEl encUP_ok (i := 4) rfl hkL
    rw [<- hx] at cx
    refine ⟨_, _, _, _, _, _, _, _, _, cx, ?_⟩
    refine H18.alloc ?_; clear H18; intro b4 w19 H19
    have H19 := St.lastTo (X := [_, _, _, _, _, _]) H19
    simp only [List.cons_append, List.nil_append] at H19
    refine H19.store (i := 6) rfl (by rfl) (by rfl) ?_; clear H19; intro w20 H20
    simp only [List.set_cons_succ, List.set_cons_zero] at H20
    replace H20 : St (fun _ => False) [] w w20 (.blk b0 Ty_api_Sender (encSd s a c) :: .blk b1 Ty_api_Status [.int .i64 r.upto, .slice ma r.miss.length mc] :: .blk b2 Ty_api_Sender (encSd .zero none 0) :: .blk b Ty_sender_side (encSd { t with failed := f } (some ⟨g, 0, none⟩) uc) :: .els encUP Ty_api_Unit 5 (some ⟨g, 0, none⟩) uc L :: .els encUP Ty_api_Unit 5 left_a left_c O :: .blk b4 Ty_api_Unit (encU x.u x.a x.c x.a2 x.c2) :: (O.map agR ++ agR x :: (L.drop (k + 1)).map agR)) (DatR L) := H20
    refine ⟨_, _, _, _, _, _, _, _, _, H20.cells (i := 6) rfl, ?_⟩
    refine ⟨_, _, _, _, H20.cells (i := 1) rfl, ?_⟩
    refine (sender_missing_ct (hM.belowE H20.below) hml).mono ?_
    rintro _ w21 ⟨qa, qc, rfl, K21⟩
    have H21 := H20.callR K21; clear H20
    have H21 := St.lastTo (X := [_, _, _, _, _, _, _]) H21
    simp only [List.cons_append, List.nil_append] at H21
    refine ⟨_, _, _, _, rfl, ?_⟩
    refine ⟨fun w26 => ∃ (v : UP) (fl : Bool), repF s r (k + 1) = (p.1 ++ [v.u], fl) /\ (v.a = x.a /\ v.c = x.c) /\ v.u.data = x.u.data /\
     St (fun _ => False) [] w w26 (.blk b0 Ty_api_Sender (encSd s a c) :: .blk b1 Ty_api_Status [.int .i64 r.upto, .slice ma r.miss.length mc] :: .blk b2 Ty_api_Sender (encSd .zero none 0) :: .blk b Ty_sender_side (encSd { t with failed := fl } (some ⟨g, 0, none⟩) uc) :: .els encUP Ty_api_Unit 5 (some ⟨g, 0, none⟩) uc L :: .els encUP Ty_api_Unit 5 left_a left_c O :: .blk b4 Ty_api_Unit (encUP v) :: (O.map agR ++ ([agR v] ++ (L.drop (k + 1)).map agR))) (DatR L), ?_, ?_⟩
    ·rintro _  w26 ⟨v, fl, hv, hva, hvd, H26⟩
     refine ⟨_, _, _, _, _, _, _, _, _, H26.cells (i := 6) rfl, ?_⟩
     refine H26.alloc ?_; clear H26; intro b5 w27 H27
     refine H27.appEL [v] encUP_ok (i := 5) rfl sl_Ty_S_api_Unit rfl (by simp; omega) (by simp; omega) ?_
     clear H27; intro x_a2 x_c2 w28 H28
     simp only [List.set_cons_succ, List.set_cons_zero] at H28
     have H28 := St.skip (X := [_, _, _, _, _, _]) H28
     simp only [List.cons_append, List.nil_append] at H28
     refine kW_i64 (by omega) ?_
     refine ⟨⟨k + 1, O ++ [v], by omega, by omega, rfl, ?_, fromL_snoc hF hxm hva hvd, ?_⟩, by first | omega | (dsimp only; omega)⟩
     ·rw [List.map_append, hO, hv]; rfl
     ·rw [hv, List.map_append, List.append_assoc]; exact H28
    ·have keep : ∀ {w' : World}, repF s r (k + 1) = (p.1 ++ [x.u], f) -> St (fun _ => False) [] w w' (.blk b0 Ty_api_Sender (encSd s a c) :: .blk b1 Ty_api_Status [.int .i64 r.upto, .slice ma r.miss.length mc] :: .blk b2 Ty_api_Sender (encSd .zero none 0) :: .blk b Ty_sender_side (encSd { t with failed := f } (some ⟨g, 0, none⟩) uc) :: .els encUP Ty_api_Unit 5 (some ⟨g, 0, none⟩) uc L :: .els encUP Ty_api_Unit 5 left_a left_c O :: .blk b4 Ty_api_Unit (encU x.u x.a x.c x.a2 x.c2) :: .els encR Ty_api_Range 3 qa qc (missS x.u r.miss).1 :: (O.map agR ++ agR x :: (L.drop (k + 1)).map agR)) (DatR L) ->
      ∃ (v : UP) (fl : Bool), repF s r (k + 1) = (p.1 ++ [v.u], fl) /\ (v.a = x.a /\ v.c = x.c) /\ v.u.data = x.u.data /\ St (fun _ => False) [] w w' (.blk b0 Ty_api_Sender (encSd s a c) :: .blk b1 Ty_api_Status [.int .i64 r.upto, .slice ma r.miss.length mc] :: .blk b2 Ty_api_Sender (encSd .zero none 0) :: .blk b Ty_sender_side (encSd { t with failed := fl } (some ⟨g, 0, none⟩) uc) :: .els encUP Ty_api_Unit 5 (some ⟨g, 0, none⟩) uc L :: .els encUP Ty_api_Unit 5 left_a left_c O :: .blk b4 Ty_api_Unit (encUP v) :: (O.map agR ++ ([agR v] ++ (L.drop (k + 1)).map agR))) (DatR L) := fun h H =>
      ⟨x, f, h, ⟨rfl, rfl⟩, rfl, St.skip (X := [_, _, _, _, _, _, _]) H⟩
     have new : ∀ {w' : World} {v : UP} {fl : Bool}, repF s r (k + 1) = (p.1 ++ [v.u], fl) -> (v.a = x.a /\ v.c = x.c) -> v.u.data = x.u.data -> agR v = .els encR Ty_api_Range 3 qa qc (missS x.u r.miss).1 -> St (fun _ => False) [] w w' (.blk b0 Ty_api_Sender (encSd s a c) :: .blk b1 Ty_api_Status [.int .i64 r.upto, .slice ma r.miss.length mc] :: .blk b2 Ty_api_Sender (encSd .zero none 0) :: .blk b Ty_sender_side (encSd { t with failed := fl } (some ⟨g, 0, none⟩) uc) :: .els encUP Ty_api_Unit 5 (some ⟨g, 0, none⟩) uc L :: .els encUP Ty_api_Unit 5 left_a left_c O :: .blk b4 Ty_api_Unit (encUP v) :: .els encR Ty_api_Range 3 qa qc (missS x.u r.miss).1 :: (O.map agR ++ agR x :: (L.drop (k + 1)).map agR)) (DatR L) ->
      ∃ (v : UP) (fl : Bool), repF s r (k + 1) = (p.1 ++ [v.u], fl) /\ (v.a = x.a /\ v.c = x.c) /\ v.u.data = x.u.data /\ St (fun _ => False) [] w w' (.blk b0 Ty_api_Sender (encSd s a c) :: .blk b1 Ty_api_Status [.int .i64 r.upto, .slice ma r.miss.length mc] :: .blk b2 Ty_api_Sender (encSd .zero none 0) :: .blk b Ty_sender_side (encSd { t with failed := fl } (some ⟨g, 0, none⟩) uc) :: .els encUP Ty_api_Unit 5 (some ⟨g, 0, none⟩) uc L :: .els encUP Ty_api_Unit 5 left_a left_c O :: .blk b4 Ty_api_Unit (encUP v) :: (O.map agR ++ ([agR v] ++ (L.drop (k + 1)).map agR))) (DatR L) := fun {w' v fl} h h1 h2 h3 H => by
      refine ⟨v, fl, h, h1, h2, ?_⟩
      have H1 := St.newIn (X := [_, _, _, _, _, _, _]) H
      rw [<- List.append_assoc, show ∀ (A B : List Res) (y z : Res), A ++ y :: z :: B = (A ++ [y]) ++ z :: B from fun A B y z => by simp] at H1
      have H2 := St.skip H1
      rw [h3]
      simpa using H2
     refine H21.ld (i := 6) rfl rfl ?_
     refine (place_cells (H21.cells (i := 3) rfl) hb').mono ?_
     rintro _ w22 ⟨rfl, hb22⟩; have H22 := H21.pass hb22; clear H21
     refine ⟨_, rfl, ?_⟩
     rw [hpl]
     refine kLet_in ?_
     refine bsplit_dec (fun c8 => ?_) (fun c8 => ?_)
     ·exact keep (by rw [hstep, repStep, if_pos c8, hf]) H22
     ·rw [repStep, if_neg (by omega)] at hstep
      refine bsplit_intro (fun c7 => ?_) (fun c7 => ?_)
      ·rw [if_pos c7] at hstep
       refine H22.ldS (i := 6) rfl rfl ?_
       refine kLet_in ?_
       refine H22.set (i := 6) rfl (by show 4 < 5; decide) ?_; clear H22; intro w23 H23
       simp only [List.set_cons_succ, List.set_cons_zero] at H23
       obtain ⟨y, hy⟩ : ∃ y : UP, y = ⟨{ x.u with again := (missS x.u r.miss).1 }, x.a, x.c, qa, qc⟩ := ⟨_, rfl⟩
       have e6 : (encU x.u x.a x.c x.a2 x.c2).set 4 (.slice qa (missS x.u r.miss).1.length qc) = encUP y := by rw [hy]; rfl
       rw [e6] at H23
       have eqn : y.u = { x.u with again := (missS x.u r.miss).1 } := by rw [hy]
       have same : ∀ {w' : World}, repF s r (k + 1) = (p.1 ++ [{ x.u with again := (missS x.u r.miss).1 }], p.2) -> St (fun _ => False) [] w w' (.blk b0 Ty_api_Sender (encSd s a c) :: .blk b1 Ty_api_Status [.int .i64 r.upto, .slice ma r.miss.length mc] :: .blk b2 Ty_api_Sender (encSd .zero none 0) :: .blk b Ty_sender_side (encSd { t with failed := f } (some ⟨g, 0, none⟩) uc) :: .els encUP Ty_api_Unit 5 (some ⟨g, 0, none⟩) uc L :: .els encUP Ty_api_Unit 5 left_a left_c O :: .blk b4 Ty_api_Unit (encUP y) :: .els encR Ty_api_Range 3 qa qc (missS x.u r.miss).1 :: (O.map agR ++ agR x :: (L.drop (k + 1)).map agR)) (DatR L) -> _ := fun {w'} h H =>
        new (w' := w') (v := y) (fl := f) (by rw [h, eqn, hf]) (by rw [hy]; exact ⟨rfl, rfl⟩) (by rw [hy]) (by rw [hy]; rfl) H
       refine bsplit_dec (fun c5 => ?_) (fun c5 => ?_)
       ·refine bsplit_dec (fun c4 => ?_) (fun c4 => ?_)
        ·rw [if_pos ⟨by omega, by omega⟩] at hstep
         refine F_sender_side_again_ok b 0 b4 0 w23 ?_
         unfold F_sender_side_again
         refine H23.drew ?_; clear H23; intro w24 H24
         refine H24.ld (i := 6) (x := x.u.tries) rfl (by rw [hy]; rfl) ?_
         refine H24.ld (i := 3) rfl rfl ?_
         rw [<- htl] at hstep
         refine bsplit_dec (fun c9 => ?_) (fun c9 => ?_)
         ·rw [if_pos c9] at hstep
          refine H24.set (i := 3) rfl (by show 0 + 12 < 13; decide) ?_; clear H24; intro w25 H25
          simp only [List.set_cons_succ, List.set_cons_zero] at H25
          exact ⟨rfl, new (v := y) (fl := true) (by rw [hstep, eqn]) (by rw [hy]; exact ⟨rfl, rfl⟩) (by rw [hy]) (by rw [hy]; rfl) H25⟩
         ·rw [if_neg c9] at hstep
          refine H24.ld (i := 6) (x := x.u.tries) rfl (by rw [hy]; rfl) ?_
          refine kW_i64 (by omega) ?_
          refine H24.set (i := 6) rfl (by rw [hy]; show 0 + 3 < 5; decide) ?_; clear H24; intro w25 H25
          simp only [List.set_cons_succ, List.set_cons_zero] at H25
          obtain ⟨z, hz⟩ : ∃ z : UP, z = ⟨{ x.u with again := (missS x.u r.miss).1, tries := x.u.tries + 1 }, x.a, x.c, qa, qc⟩ := ⟨_, rfl⟩
          have e7 : (encUP y).set (0 + 3) (.int .i64 (x.u.tries + 1)) = encUP z := by rw [hy, hz]; rfl
          rw [e7] at H25
          exact ⟨rfl, new (v := z) (fl := f) (by rw [hstep, hz, hf]) (by rw [hz]; exact ⟨rfl, rfl⟩) (by rw [hz]) (by rw [hz]; rfl) H25⟩
        ·rw [if_neg (by omega)] at hstep
         exact same hstep H23
       ·rw [if_neg (by omega)] at hstep
        exact same hstep H23
      ·rw [if_neg (by rw [c7]; decide)] at hstep
       refine ⟨_, _, _, _, _, _, _, _, _, H22.cells (i := 6) rfl, ?_⟩
       refine (sender_whole_ct (u := x.u) (a := x.a) (c := x.c) (a2 := x.a2) (c2 := x.c2)).mono ?_
       rintro _ w25 ⟨rfl, hb25⟩; have H25 := H22.pass hb25; clear H22
       refine ⟨_, rfl, ?_⟩
       refine bsplit_dec (fun c6 => ?_) (fun c6 => ?_)
       ·rw [if_pos c6] at hstep
        refine kW_i64 (by omega) ?_
        have H26 := St.skip (X := [_, _, _, _, _, _, _]) H25
        have H27 := St.skip (X := [_, _, _, _, _, _]) H26
        simp only [List.cons_append, List.nil_append] at H27
        have H28 := St.skip (X := ((.blk b0 Ty_api_Sender (encSd s a c) :: .blk b1 Ty_api_Status [.int .i64 r.upto, .slice ma r.miss.length mc] :: .blk b2 Ty_api_Sender (encSd .zero none 0) :: .blk b Ty_sender_side (encSd { t with failed := f } (some ⟨g, 0, none⟩) uc) :: .els encUP Ty_api_Unit 5 (some ⟨g, 0, none⟩) uc L :: .els encUP Ty_api_Unit 5 left_a left_c O :: O.map agR) : List Res)) H27
        refine ⟨⟨k + 1, O, by omega, by omega, rfl, by rw [hstep]; exact hO, hF, ?_⟩, by first | omega | (dsimp only; omega)⟩
        rw [hstep, <- hf]; simpa using H28
       ·rw [if_neg c6] at hstep
        exact keep (by rw [hstep, hf]) H25
   ·obtain rfl : k = s.units.length := by omega
    have hfull : repF s r s.units.length = s.units.foldl (repStep s (s.place r.upto) r.miss) ([], false) := by rw [repF, List.take_length]
    obtain ⟨p, hp⟩ : ∃ p, p = repF s r s.units.length := ⟨_, rfl⟩
    rw [<- hp] at hO H18 hfull
    have hOn : O.length = p.1.length := by rw [<- hO, List.length_map]
    rw [List.drop_of_length_le (by omega), List.map_nil, List.append_nil] at H18
    have hT : repT s r = { t with units := p.1, failed := p.2, first := (match p.1 with | u :: _ => u.sn | [] => s.next) } := by rw [ht, hfull]; rfl
    refine kNil_in ?_
    rw [add_mk]
    refine H18.ld (i := 3) (x := t.next) rfl rfl ?_
    refine kNil_in ?_
    rw [add_mk]
    refine H18.set (i := 3) rfl (by show 0 + 8 < 13; decide) ?_; clear H18; intro w32 H32
    simp only [List.set_cons_succ, List.set_cons_zero] at H32
    refine kNil_in ?_
    rw [add_mk]
    refine H32.set (i := 3) rfl (by show 0 + 6 < 13; decide) ?_; clear H32; intro w33 H33
    simp only [List.set_cons_succ, List.set_cons_zero] at H33
    have fin : ∀ {w' : World} {x : Sd}, repT s r = x -> O.map (·.u) = x.units -> St (fun _ => False) [] w w' (.blk b0 Ty_api_Sender (encSd s a c) :: .blk b1 Ty_api_Status [.int .i64 r.upto, .slice ma r.miss.length mc] :: .blk b2 Ty_api_Sender (encSd .zero none 0) :: .blk b Ty_sender_side (encSd x left_a left_c) :: .els encUP Ty_api_Unit 5 ua uc L :: .els encUP Ty_api_Unit 5 left_a left_c O :: O.map agR) (DatR L) ->
     sxStore w' ⟨b2, 0, none⟩ 0 (encSd x left_a left_c) fun w4 =>
      ∃ r_0 r_1 r_2 r_3 r_4 r_5 r_6 r_7 : Int, ∃ r_8_a : Option Addr, ∃ r_8_l r_8_c : Nat, ∃ r_9 r_10 r_11 : Int, ∃ r_12 : Bool,
       cellsAt w4 ⟨b2, 0, none⟩ 0 [(.int .i64 r_0), (.int .i64 r_1), (.int .i64 r_2), (.int .i64 r_3), (.int .i64 r_4), (.int .i64 r_5), (.int .i64 r_6), (.int .i64 r_7), (.slice r_8_a r_8_l r_8_c), (.int .i64 r_9), (.int .i64 r_10), (.int .i64 r_11), (.bool r_12)] /\
       RetO w (repT s r) 0 (.returned (.tuple #[(.agg #[.int .i64 r_0, .int .i64 r_1, .int .i64 r_2, .int .i64 r_3, .int .i64 r_4, .int .i64 r_5, .int .i64 r_6, .int .i64 r_7, .slice r_8_a r_8_l r_8_c, .int .i64 r_9, .int .i64 r_10, .int .i64 r_11, .bool r_12]), (.int .i64 0)])) w4 := fun {w' x} hx hu H => by
     rw [hx]
     exact retS (x := x) (a := left_a) (c := left_c) (L := O) (i := 2) H rfl rfl hu fun w4 H4 => (H4.sub (fun i => i + 5) (fun i r hi => hi) (fun i j _ _ h => by omega)).imp fun w h => fromL_dat hF h
    refine bsplit_dec (fun c9 => ?_) (fun c9 => ?_)
    ·obtain ⟨g', hg', _, _⟩ := H33.rowSome (i := 5) rfl (by omega)
     subst hg'
     have hO0 : 0 < O.length := by omega
     refine kIx_at ⟨by omega, by omega⟩ ?_
     have c0 := H33.cellEl encUP_ok (i := 5) rfl hO0 (j := 0) (v := .int .i64 O[0].u.sn) (by decide) rfl
     refine ⟨_, by rw [show ((0 : Int).toNat * 5) = 0 from rfl, add_mk]; exact c0, ?_⟩
     refine kNil_in ?_
     rw [add_mk]
     refine H33.set (i := 3) rfl (by show 0 + 6 < 13; decide) ?_; clear H33; intro w34 H34
     simp only [List.set_cons_succ, List.set_cons_zero] at H34
     obtain ⟨x, hx⟩ : ∃ x : Sd, x = { t with units := p.1, failed := p.2, first := O[0].u.sn } := ⟨_, rfl⟩
     have hTx : repT s r = x := by
      rw [hT, hx]
      have : p.1 = O[0].u :: (O.drop 1).map (·.u) := by rw [<- hO, <- List.map_cons (f := fun y : UP => y.u), <- List.drop_eq_getElem_cons hO0]; rfl
      rw [this]
     have e : ((((encSd { t with failed := p.2 } ua uc).set (0 + 8) (.slice (some ⟨g', 0, none⟩) O.length left_c)).set (0 + 6) (.int .i64 t.next)).set (0 + 6) (.int .i64 O[0].u.sn)) = encSd x (some ⟨g', 0, none⟩) left_c := by
      rw [hx, hOn]; rfl
     rw [e] at H34
     refine kNil_in ?_
     refine ⟨_, _, _, _, _, _, _, _, _, _, _, _, _, _, _, H34.cells (i := 3) rfl, ?_⟩
     exact fin hTx (by rw [hx]; exact hO) H34
    ·have hO0 : O = [] := List.eq_nil_of_length_eq_zero (by omega)
     obtain ⟨x, hx⟩ : ∃ x : Sd, x = { t with units := p.1, failed := p.2, first := t.next } := ⟨_, rfl⟩
     have hTx : repT s r = x := by
      rw [hT, hx]
      have : p.1 = [] := by rw [<- hO, hO0]; rfl
      rw [this, htn]
     have e : (((encSd { t with failed := p.2 } ua uc).set (0 + 8) (.slice left_a O.length left_c)).set (0 + 6) (.int .i64 t.next)) = encSd x left_a left_c := by
      rw [hx, hOn]; rfl
     rw [e] at H33
     refine kNil_in ?_
     refine ⟨_, _, _, _, _, _, _, _, _, _, _, _, _, _, _, H33.cells (i := 3) rfl, ?_⟩
     exact fin hTx (by rw [hx]; exact hO) H33
  ·refine kNil_in ?_
   rw [add_mk]
   refine H12.ld (i := 3) rfl rfl ?_
   refine bsplit_nd (fun c3 => ?_) (fun c3 => ?_)
   ·refine kNil_in ?_
    rw [add_mk]
    refine H12.ld (i := 3) rfl rfl ?_
    refine (place_cells (H12.cells (i := 3) rfl) hb).mono ?_
    rintro _ w14 ⟨rfl, hb14⟩; have H14 := H12.pass hb14; clear H12
    refine ⟨_, rfl, ?_⟩
    refine bsplit_dec (fun c2 => ?_) (fun c2 => ?_)
    ·refine kNil_in ?_
     rw [add_mk]
     refine H14.set (i := 3) rfl (by show 0 + 10 < 13; decide) ?_; clear H14; intro w15 H15
     simp only [List.set_cons_succ, List.set_cons_zero] at H15
     refine kNil_in ?_
     rw [add_mk]
     refine H15.set (i := 3) rfl (by show 0 + 11 < 13; decide) ?_; clear H15; intro w16 H16
     simp only [List.set_cons_succ, List.set_cons_zero] at H16
     rw [ht, if_pos ⟨c3, c2⟩, if_pos ⟨c3, c2⟩]; exact H16
    ·rw [ht, if_neg (fun h => c2 h.2), if_neg (fun h => c2 h.2)]; exact H14
   ·rw [ht, if_neg (fun h => h.1 c3), if_neg (fun h => h.1 c3)]; exact H12
 ·refine ⟨_, _, _, _, _, _, _, _, _, _, _, _, _, _, _, H3.cells (i := 0) rfl, ?_⟩
  refine (sender_Valid_ct (unR_below hu H3.below) hl).mono ?_
  rintro _ w4 ⟨rfl, hb4⟩; have H4 := H3.pass hb4; clear H3
  refine ⟨_, rfl, ?_⟩
  refine bsplit_n (fun c1 => ?_) (fun c1 => ?_)
  ·rw [repS, if_pos (.inl c1)]
   exact retZ H4 (i := 2) rfl rfl
  ·refine H4.ld (i := 0) rfl rfl ?_
   refine ⟨_, _, _, _, H4.cells (i := 1) rfl, ?_⟩
   refine (status_Valid_ct (hM.belowE H4.below) (by omega)).mono ?_
   rintro _ w6 ⟨rfl, hb6⟩; have H6 := H4.pass hb6; clear H4
   refine ⟨_, rfl, ?_⟩
   refine bsplit_nd (fun c => ?_) (fun c => ?_)
   ·rw [repS, if_pos (.inr c)]
    exact retZ H6 (i := 2) rfl rfl
   ·exact ⟨H6, c1, c⟩
end Go.Proofs.YtmbppohkadmjgaaGreat
namespace Go.Sx
end Go.Sx
namespace Go.Proofs.YtmbppohkadmjgaaGreat
open Go.Sx Go.RowKit
set_option maxRecDepth 100000

end Go.Proofs.YtmbppohkadmjgaaGreat
namespace Go.Proofs.YtmbppohkadmjgaaGreat
open Go.Sx Go.RowKit
set_option maxRecDepth 100000
end Go.Proofs.YtmbppohkadmjgaaGreat
namespace Go.Proofs.YtmbppohkadmjgaaGreat
open Go.Sx Go.RowKit
set_option maxRecDepth 100000
end Go.Proofs.YtmbppohkadmjgaaGreat
namespace Go.Sx
theorem leftI_unit {L : List Un} {k : Nat} (hk : k < L.length) (h : leftI L = k) : askU L[k] = true \/ restU L[k] = true := by
 unfold leftI at h
 split at h
 ·rename_i h1
  obtain ⟨j, hj, e, hp⟩ := idx_some h1
  have : j = k := by omega
  subst this; exact .inl hp
 ·obtain ⟨j, hj, e, hp⟩ := idx_some (p := restU) (l := L) (by omega)
  have : j = k := by omega
  subst this; exact .inr hp
theorem okB_pieces {s : Sd} (h : s.okB = true) : 0 <= s.pieces /\ s.pieces <= s.lk.every - 1 := by
 unfold Sd.okB at h
 simp only [Bool.and_eq_true, decide_eq_true_eq] at h
 exact h.1.2
theorem lastSn_step {L : List Un} {j : Nat} {d : Int} (h : j < L.length) : lastSn (L.take (j + 1)) d = if 0 < L[j].sent then L[j].sn else lastSn (L.take j) d := by
 rw [List.take_succ_eq_append_getElem h, lastSn, List.foldl_append]; rfl
theorem cut_len (b : Int) (p : Pc) (size : Int) : (cutP b p size).1.data.length <= p.data.length := by
 unfold cutP
 split
 ·simp [Pc.zero]
 ·split
  ·simp [Pc.zero]
  ·split
   ·exact Nat.le_refl _
   ·dsimp only; rw [List.length_take]; omega
end Go.Sx
namespace Go.Proofs.YtmbppohkadmjgaaGreat
open Go.Sx Go.RowKit
set_option maxRecDepth 100000
def encPc (p : Pc) (a : Option Addr) (c : Nat) : List Value := [.int .i64 p.sn, .int .i64 p.part, .int .i64 p.poll, .int .i64 p.off, .slice a p.data.length c]
def RetW (w : World) (x : Sd) (bs : List Int) (E : Int) (e : Ending) (w' : World) : Prop :=
 ∃ a c ba bc, bs.length <= bc /\ e = .returned (.tuple #[aggS x a c, .slice ba bs.length bc, .int .i64 E]) /\ Fresh w w' fun w => UnR w a x.units /\ SlR (IntC .u8) 1 w ba bs
structure DP where
 a0 : Option Addr
 c0 : Nat
 all : List Rg
def resD (y : DP) : Res := .els encR Ty_api_Range 3 y.a0 y.c0 y.all
def toD (x : UP) : DP := ⟨x.a2, x.c2, x.u.again⟩
def OwnD (x : UP) (y : DP) : Prop := ∃ n, n <= 1 /\ n <= y.all.length /\ x.u.again = y.all.drop n /\ x.a2 = slAddr y.c0 n 3 y.a0 /\ x.c2 = y.c0 - n
def OwnDs (L : List UP) (D : List DP) : Prop := D.length = L.length /\ ∀ i (h : i < L.length) (h' : i < D.length), OwnD L[i] D[i]
theorem shareD {A0 : Nat -> Prop} {w0 w : World} : ∀ {L : List UP} {D : List DP} {R : List Res} {P : World -> Prop}, OwnDs L D -> St A0 [] w0 w (R ++ D.map resD) P -> St A0 [] w0 w R fun w => RngR L w /\ P w
 | [], D, R, P, hO, H => by
  obtain rfl : D = [] := List.eq_nil_of_length_eq_zero hO.1
  have := H.imp (Q := fun w => RngR [] w /\ P w) fun _ h => ⟨fun x hx => by simp at hx, h⟩
  simpa using this
 | x :: L, [], R, P, hO, H => by have := hO.1; simp at this
 | x :: L, y :: D, R, P, hO, H => by
  have e : (R ++ (y :: D).map resD)[R.length]? = some (resD y) := by simp
  have hcap : y.all.length <= y.c0 := H.capE e
  have K := (H.shareE encR_ok e).sub (R' := R ++ D.map resD) (fun i => if i < R.length then i else i + 1) (fun i r hi => by
   by_cases h : i < R.length
   ·rw [List.getElem?_append_left h] at hi
    rw [if_pos h, List.getElem?_set_ne (by omega), List.getElem?_append_left h]; exact hi
   ·rw [List.getElem?_append_right (by omega)] at hi
    rw [if_neg h, List.getElem?_set_ne (by omega), List.getElem?_append_right (by omega), show i + 1 - R.length = (i - R.length) + 1 by omega]
    simpa using hi) (fun i j _ _ h => by
   by_cases h1 : i < R.length <;> by_cases h2 : j < R.length <;> simp only [h1, h2, if_true, if_false] at h <;> omega)
  have hO2 : OwnDs L D := ⟨by have := hO.1; simpa using this, fun i h h' => by
   have := hO.2 (i + 1) (by simpa using h) (by simpa using h')
   simpa using this⟩
  have K2 := shareD hO2 K
  refine K2.imp fun w h => ⟨fun z hz => ?_, h.2.2⟩
  rcases List.mem_cons.1 hz with rfl | hz
  ·obtain ⟨n, _, hn, h1, h2, h3⟩ := hO.2 0 (by simp) (by simp)
   simp only [List.getElem_cons_zero] at hn h1 h2 h3
   rw [h1, h2]
   exact h.2.1.tailE (l := n) hcap
  ·exact h.1 z hz
def RetPB (w : World) (x : Sd) (bs : List Int) (E : Int) (e : Ending) (w' : World) : Prop :=
 ∃ a c ba bc L D, bs.length <= bc /\ L.map (·.u) = x.units /\ OwnDs L D /\ e = .returned (.tuple #[aggS x a c, .slice ba bs.length bc, .int .i64 E]) /\ St (fun _ => False) [] w w' (.els encUP Ty_api_Unit 5 a c L :: D.map resD) (fun w => SlR (IntC .u8) 1 w ba bs /\ Dat0 L w)
theorem RetPB.read {w w' : World} {x : Sd} {bs : List Int} {E : Int} {e : Ending} (h : RetPB w x bs E e w') : RetW w x bs E e w' := by
 obtain ⟨a, c, ba, bc, L, D, hbc, hL, hO, he, H⟩ := h
 have K := (shareD (R := [.els encUP Ty_api_Unit 5 a c L]) hO H).shareE encUP_ok (i := 0) rfl
 exact ⟨a, c, ba, bc, hbc, he, K.fin.imp fun w h => ⟨by rw [<- hL]; exact up_unR h.1 h.2.2.2 h.2.1, h.2.2.1⟩⟩
theorem retWZ {w w' : World} {R : List Res} {P : World -> Prop} {b1 : Nat} {E : Int} {cs : List Value} {i : Nat} (H : St (fun _ => False) [] w w' R P) (hi : R[i]? = some (.blk b1 Ty_api_Sender cs)) (hl : cs.length = 13) :
 sxStore w' ⟨b1, 0, none⟩ 0 (encSd .zero none 0) fun w4 =>
  ∃ r_0 r_1 r_2 r_3 r_4 r_5 r_6 r_7 : Int, ∃ r_8_a : Option Addr, ∃ r_8_l r_8_c : Nat, ∃ r_9 r_10 r_11 : Int, ∃ r_12 : Bool,
   cellsAt w4 ⟨b1, 0, none⟩ 0 [(.int .i64 r_0), (.int .i64 r_1), (.int .i64 r_2), (.int .i64 r_3), (.int .i64 r_4), (.int .i64 r_5), (.int .i64 r_6), (.int .i64 r_7), (.slice r_8_a r_8_l r_8_c), (.int .i64 r_9), (.int .i64 r_10), (.int .i64 r_11), (.bool r_12)] /\
   RetW w .zero [] E (.returned (.tuple #[(.agg #[.int .i64 r_0, .int .i64 r_1, .int .i64 r_2, .int .i64 r_3, .int .i64 r_4, .int .i64 r_5, .int .i64 r_6, .int .i64 r_7, .slice r_8_a r_8_l r_8_c, .int .i64 r_9, .int .i64 r_10, .int .i64 r_11, .bool r_12]), (.slice none 0 0), (.int .i64 E)])) w4 := by
 refine H.store hi (by rw [hl]; rfl) (by rfl) ?_
 intro w4 H4
 have hi4 : (R.set i (.blk b1 Ty_api_Sender (encSd .zero none 0)))[i]? = some (.blk b1 Ty_api_Sender (encSd .zero none 0)) := by
  have := (List.getElem?_eq_some_iff.1 hi).1
  simp [this]
 refine ⟨_, _, _, _, _, _, _, _, _, _, _, _, _, _, _, H4.cells hi4, ?_⟩
 exact ⟨none, 0, none, 0, Nat.le_refl _, rfl, H4.fin.imp fun _ _ => ⟨.inl rfl, .nil⟩⟩

end Go.Proofs.YtmbppohkadmjgaaGreat
namespace Go.Proofs.YtmbppohkadmjgaaGreat
open Go.Sx Go.RowKit
set_option maxRecDepth 100000
theorem sender_part_ct {u : Un} {a a2 : Option Addr} {c c2 : Nat} {w : World} (hr : SlR (CE encR) 3 w a2 u.again) :
 Calls Tryz.prog N_sender_part #[aggU u a c a2 c2] w fun e w' => e = .returned (.agg #[.int .i64 (partU u).sn, .int .i64 (partU u).f, .int .i64 (partU u).t]) /\ Below w.heap.size w w' := by
 apply F_sender_part_ok
 unfold F_sender_part
 have H := St.nil w
 refine H.alloc ?_; clear H; intro b w1 H1
 refine H1.alloc ?_; clear H1; intro b1 w2 H2
 simp only [List.cons_append, List.nil_append] at H2
 refine H2.ldS (i := 0) rfl rfl ?_
 refine bsplit_dec (fun cc => ?_) (fun cc => ?_)
 ·refine H2.ldS (i := 0) rfl rfl ?_
  refine ixE (hr.belowE H2.below) 0 rfl (by omega) fun b2 r h hb2 => ?_
  refine ⟨_, _, _, hb2, ?_⟩
  refine H2.store (i := 1) rfl (by rfl) (by rfl) ?_; clear H2; intro w3 H3
  refine ⟨_, _, _, H3.cells (i := 1) rfl, ?_⟩
  have hp : partU u = r := by
   unfold partU
   cases hh : u.again with
   | nil => rw [hh] at h; simp at h
   | cons x l => rw [hh] at h; simp at h; exact h
  exact ⟨by rw [hp], H3.below⟩
 ·have hp : partU u = ⟨u.sn, u.sent, u.data.length⟩ := by
   unfold partU
   rw [List.eq_nil_of_length_eq_zero (show u.again.length = 0 by omega)]
  refine H2.ld (i := 0) rfl rfl ?_
  refine H2.ld (i := 0) rfl rfl ?_
  refine H2.ldS (i := 0) rfl rfl ?_
  refine H2.store (i := 1) rfl (by rfl) (by rfl) ?_; clear H2; intro w4 H4
  refine ⟨_, _, _, H4.cells (i := 1) rfl, ?_⟩
  exact ⟨by rw [hp], H4.below⟩
end Go.Proofs.YtmbppohkadmjgaaGreat
namespace Go.Proofs.YtmbppohkadmjgaaGreat
open Go.Sx Go.RowKit
set_option maxRecDepth 100000
theorem sender_Build_ct {s : Sd} {a : Option Addr} {c : Nat} {size : Int} {w : World} (hu : UnR w a s.units) (hl : SmU s.units) (hsz : -9223372036854775808 <= size /\ size <= 9223372036854775807) :
 Calls Tryz.prog N_sender_Build #[aggS s a c, .int .i64 size] w (RetW w (buildS s size (begE s)).1 (buildS s size (begE s)).2.1 (buildS s size (begE s)).2.2) := by
 apply F_sender_Build_ok
 unfold F_sender_Build
 have H := St.nil w
 refine H.alloc ?_; clear H; intro b0 w1 H1
 refine H1.alloc ?_; clear H1; intro b1 w2 H2
 simp only [List.cons_append, List.nil_append] at H2
 refine ⟨_, _, _, _, _, _, _, _, _, _, _, _, _, _, _, H2.cells (i := 0) rfl, ?_⟩
 refine (sender_begin_ct (unR_below hu H2.below) hl).mono ?_
 rintro _ w3 (⟨hE, rfl, hb3⟩ | ⟨hE, b, ua, uc, L, hL, rfl, K3⟩)
 ·have H3 := H2.pass hb3; clear H2
  refine ⟨_, _, rfl, ?_⟩
  refine bsplit_nd (fun _ => ?_) (fun h => absurd h hE)
  rw [buildS, if_pos hE]
  exact retWZ H3 (i := 1) rfl rfl
 have H3 := H2.callF K3; clear H2
 simp only [List.cons_append, List.nil_append] at H3
 refine ⟨_, _, rfl, ?_⟩
 refine bsplit_nd (fun h => absurd rfl h) (fun _ => ?_)
 obtain ⟨hok, hfa⟩ := begE_ok hE
 obtain ⟨hfit, hlk, hsf, hsn, hall⟩ := okB_fit hok
 have hf1 := hfit.1
 have hb := hlk.1
 have hlen : L.length = s.units.length := by rw [<- hL, List.length_map]
 rw [buildS, if_neg (by omega)]
 refine (sender_side_left_ct (s := s) (b := b) (o := 0) ⟨ua, uc, H3.cells (i := 2) rfl, sideU H3 (fun _ h => h.1) hL⟩ (by omega)).mono ?_
 rintro _ w5 ⟨rfl, hb5⟩; have H5 := H3.pass hb5; clear H3
 refine ⟨_, rfl, ?_⟩
 refine sender_between_ct.mono ?_
 rintro _ w6 ⟨rfl, hb6⟩; have H6 := H5.pass hb6; clear H5
 refine ⟨_, rfl, ?_⟩
 refine bsplit_nd (fun c4 => ?_) (fun c4 => ?_)
 ·rw [if_pos c4]
  exact retWZ H6 (i := 1) rfl rfl
 rw [if_neg (by omega)]
 refine kLet_in ?_
 refine bsplit_dec (fun c3 => ?_) (fun c3 => ?_)
 ·rw [if_pos c3]
  exact retWZ H6 (i := 1) rfl rfl
 rw [if_neg c3]
 obtain ⟨k, hk, hlk0⟩ := leftI_some (L := s.units) (by omega)
 rw [hlk0, Int.toNat_natCast, List.getElem?_eq_getElem hk]
 obtain ⟨u, hue⟩ : ∃ u, u = s.units[k] := ⟨_, rfl⟩
 have hmu : u ∈ s.units := by rw [hue]; exact List.getElem_mem _
 have hau := leftI_unit hk hlk0
 rw [<- hue] at hau ⊢
 have hin := partU_in (hall u hmu).1 hau
 have hfu := hfit.2 u hmu
 obtain ⟨r, hr⟩ : ∃ r, r = partU u := ⟨_, rfl⟩
 rw [<- hr] at hin
 dsimp only
 have hkL : k < L.length := by omega
 obtain ⟨x, hx⟩ : ∃ x, x = L[k] := ⟨_, rfl⟩
 have hxm : x ∈ L := by rw [hx]; exact List.getElem_mem _
 have hxu : x.u = u := by rw [hue, hx]; simp [<- hL]
 refine kNil_in ?_
 rw [add_mk]
 refine H6.ldS (i := 2) rfl rfl ?_
 obtain ⟨g, hg, hg1, hg2⟩ := H6.rowSome (i := 3) rfl (by omega)
 subst hg
 refine kIx_at ⟨by omega, by omega⟩ ?_
 simp only [add_mk, Nat.zero_add]
 have cx := H6.cellsEl encUP_ok (i := 3) rfl hkL
 rw [<- hx] at cx
 refine ⟨_, _, _, _, _, _, _, _, _, cx, ?_⟩
 have hrr : SlR (CE encR) 3 w6 x.a2 x.u.again := by
  have K := shareAg (R := [_, _, _, _]) H6
  exact K.get.1 x hxm
 refine (sender_part_ct hrr).mono ?_
 rintro _ w9 ⟨rfl, hb9⟩; have H9 := H6.pass hb9; clear H6
 refine ⟨_, _, _, rfl, ?_⟩
 rw [hxu, <- hr]
 refine H9.alloc ?_; clear H9; intro b3 w10 H10
 have H10 := St.lastTo (X := [_, _, _, _]) H10
 simp only [List.cons_append, List.nil_append] at H10
 refine H10.store (i := 4) rfl (by rfl) (by rfl) ?_; clear H10; intro w11 H11
 simp only [List.set_cons_succ, List.set_cons_zero] at H11
 refine ⟨fun p w21 => ∃ (q : Nat) (da : Option Addr) (dc : Nat), p = ⟨q, 0, none⟩ /\ (pieceU u).data.length <= dc /\ St (fun _ => False) [] w w21 (.blk b0 Ty_api_Sender (encSd s a c) :: .blk b1 Ty_api_Sender (encSd .zero none 0) :: .blk b Ty_sender_side (encSd s (some ⟨g, 0, none⟩) uc) :: .els encUP Ty_api_Unit 5 (some ⟨g, 0, none⟩) uc L :: .blk b3 Ty_api_Range [.int .i64 r.sn, .int .i64 r.f, .int .i64 r.t] :: .blk q Ty_api_Piece (encPc (pieceU u) da dc) :: L.map agR) (fun w => SlR (IntC .u8) 1 w da (pieceU u).data /\ DatR L w), ?_, ?_⟩
 ·rintro _ p w21 ⟨q, da, dc, rfl, hdc, H21⟩
  have H21 := St.skip (X := [_, _, _, _]) H21
  simp only [List.cons_append, List.nil_append] at H21
  have hpl : (pieceU u).data.length <= 3000 := by
   have : (pieceU u).data.length <= u.data.length := by
    show ((u.data.take _).drop _).length <= _
    rw [List.length_drop, List.length_take]; omega
   omega
  obtain ⟨cu, hcu⟩ : ∃ cu, cu = cutP s.lk.bits (pieceU u) size := ⟨_, rfl⟩
  rw [<- hcu]
  refine ⟨fun e1 p w50 => e1 = cu.2.2 /\ ∃ (bp : Nat) (pa : Option Addr) (pc : Nat), p = ⟨bp, 0, none⟩ /\
   St (fun _ => False) [] w w50 (.blk b0 Ty_api_Sender (encSd s a c) :: .blk b1 Ty_api_Sender (encSd .zero none 0) :: .blk b Ty_sender_side (encSd s (some ⟨g, 0, none⟩) uc) :: .els encUP Ty_api_Unit 5 (some ⟨g, 0, none⟩) uc L :: .blk bp Ty_api_Piece (encPc cu.1 pa pc) :: L.map agR) (fun w => SlR (IntC .u8) 1 w pa cu.1.data /\ DatR L w), ?_, ?_⟩
  ·rintro _ e1 p w50 ⟨rfl, bp, pa, pc, rfl, H50⟩
   refine bsplit_nd (fun c14 => ?_) (fun c14 => ?_)
   ·rw [if_pos c14]
    exact retWZ H50 (i := 1) rfl rfl
   have c14 : cu.2.2 = 0 := by omega
   rw [if_neg (by omega)]
   obtain ⟨hqo, hqp⟩ := cut_ok (b := s.lk.bits) (p := pieceU u) (size := size) (by rw [<- hcu]; exact c14)
   rw [<- hcu] at hqo hqp
   obtain ⟨q1, hq1⟩ : ∃ q1, q1 = cu.1 := ⟨_, rfl⟩
   rw [<- hq1] at hqo hqp H50 ⊢
   have hml : q1.data.length <= 2054 := by have h6 := hqo.2.2.2.2.2.1; have := hqo.2.2.2.2.2.2; omega
   have hun := unB_sent (hall u hmu).1
   obtain ⟨m, hm⟩ : ∃ m, m = q1.data.length := ⟨_, rfl⟩
   rw [add_mk]
   refine H50.ldS (i := 4) rfl rfl ?_
   rw [<- hm]
   have htake : Calls Tryz.prog N_sender_take #[(.pointer (some ⟨g, k * 5, none⟩)), (.int .i64 (m : Int))] w50 fun e w52 => e = .returned (.tuple #[]) /\
    ∃ L' : List UP, L'.map (·.u) = s.units.set k (takeU u m) /\ St (fun _ => False) [] w w52 [.blk b0 Ty_api_Sender (encSd s a c), .blk b1 Ty_api_Sender (encSd .zero none 0), .blk b Ty_sender_side (encSd s (some ⟨g, 0, none⟩) uc), .els encUP Ty_api_Unit 5 (some ⟨g, 0, none⟩) uc L', .blk bp Ty_api_Piece (encPc q1 pa pc)] (fun w => SlR (IntC .u8) 1 w pa q1.data /\ Dat0 L' w /\ RngR L' w) := by
    have ha4 : ∀ {w' : World} {P : World -> Prop} {T : List Res}, St (fun _ => False) [] w w' (.blk b0 Ty_api_Sender (encSd s a c) :: .blk b1 Ty_api_Sender (encSd .zero none 0) :: .blk b Ty_sender_side (encSd s (some ⟨g, 0, none⟩) uc) :: .els encUP Ty_api_Unit 5 (some ⟨g, 0, none⟩) uc L :: T) P ->
     w'.cell? ⟨g, k * 5 + 4, none⟩ = some (.slice x.a2 u.again.length x.c2) := fun H => H.cellEl encUP_ok (i := 3) rfl hkL (j := 4) (by decide) (by rw [<- hx, <- hxu]; rfl)
    have hmap : ∀ (z : UP), (L.set k z).map (·.u) = s.units.set k z.u := fun z => by rw [List.map_set, hL]
    have hdat : ∀ {z : UP} {w : World}, z.a = x.a -> z.u.data = x.u.data -> DatR L w -> Dat0 (L.set k z) w := fun h1 h2 h v hv => by
     rcases List.mem_or_eq_of_mem_set hv with hv | rfl
     ·exact (h v hv).1
     ·rw [h1, h2]; exact (h x hxm).1
    refine F_sender_take_ok g (k * 5) m w50 ?_
    unfold F_sender_take
    refine ⟨_, _, _, ha4 H50, ?_⟩
    refine bsplit_dec (fun c9 => ?_) (fun c9 => ?_)
    ·have hag : u.again = [] := List.eq_nil_of_length_eq_zero (by omega)
     have hr2 : r = ⟨u.sn, u.sent, u.data.length⟩ := by rw [hr, partU, hag]
     obtain ⟨z, hz⟩ : ∃ z : UP, z = ⟨takeU u m, x.a, x.c, x.a2, x.c2⟩ := ⟨_, rfl⟩
     have htk : takeU u m = { u with sent := u.sent + m } := by unfold takeU; rw [hag]
     refine ⟨_, H50.cellEl encUP_ok (i := 3) rfl hkL (j := 2) (v := .int .i64 u.sent) (by decide) (by rw [<- hx, <- hxu]; rfl), ?_⟩
     refine kW_i64 (by omega) ?_
     refine H50.setEl encUP_ok (i := 3) rfl hkL (j := 2) (by decide) z (by rw [<- hx, hz, htk, <- hxu]; rfl) ?_
     clear H50; intro w29 f29 H29
     simp only [List.set_cons_succ, List.set_cons_zero] at H29
     have H31 := shareAg (R := [_, _, _, _, _]) H29
     refine ⟨rfl, L.set k z, by rw [hmap, hz], H31.imp fun w h => ⟨h.2.1, hdat (by rw [hz]) (by rw [hz, htk, hxu]) h.2.2, fun v hv => ?_⟩⟩
     rcases List.mem_or_eq_of_mem_set hv with hv | rfl
     ·exact h.1 v hv
     ·rw [hz, htk]; have := h.1 x hxm; rw [hxu] at this; exact this
    ·obtain ⟨r0, l, hag⟩ : ∃ r0 l, u.again = r0 :: l := by
      cases h : u.again with
      | nil => rw [h] at c9; simp at c9
      | cons r0 l => exact ⟨r0, l, rfl⟩
     have hr0 : r = r0 := by rw [hr, partU, hag]
     have hi : ∀ T : List Res, (.blk b0 Ty_api_Sender (encSd s a c) :: .blk b1 Ty_api_Sender (encSd .zero none 0) :: .blk b Ty_sender_side (encSd s (some ⟨g, 0, none⟩) uc) :: .els encUP Ty_api_Unit 5 (some ⟨g, 0, none⟩) uc L :: .blk bp Ty_api_Piece (encPc q1 pa pc) :: L.map agR : List Res)[k + 5]? = some (.els encR Ty_api_Range 3 x.a2 x.c2 (r0 :: l)) := by
      intro _
      show (L.map agR)[k]? = _
      rw [List.getElem?_map, List.getElem?_eq_getElem hkL, <- hx]
      show some (agR x) = _
      rw [agR, hxu, hag]
     have hi := hi []
     have hcap : (r0 :: l).length <= x.c2 := H50.capE hi
     obtain ⟨ga, hga, _, _⟩ := H50.rowSome hi (by simp)
     have hi' := hi
     rw [hga] at hi'
     have el0 : ((⟨ga, 0, none⟩ : Addr).add ((0 : Int).toNat * 3)).add 1 = ⟨ga, 0 * 3 + 1, none⟩ := by rw [add_mk, add_mk]; rfl
     have el2 : ((⟨ga, 0, none⟩ : Addr).add ((0 : Int).toNat * 3)).add 2 = ⟨ga, 0 * 3 + 2, none⟩ := by rw [add_mk, add_mk]; rfl
     refine ⟨_, _, _, ha4 H50, ?_⟩
     rw [hga]
     refine kIx_at ⟨by omega, by omega⟩ ?_
     rw [el0]
     refine ⟨_, H50.cellEl encR_ok hi' (k := 0) (by simp) (j := 1) (v := .int .i64 r.f) (by decide) (by rw [hr0]; rfl), ?_⟩
     refine kW_i64 (by omega) ?_
     refine kIx_at ⟨by omega, by omega⟩ ?_
     rw [el0]
     refine H50.setEl encR_ok hi' (k := 0) (by simp) (j := 1) (by decide) ⟨r0.sn, r.f + m, r0.t⟩ (by rfl) ?_
     clear H50; intro w29 f29 H29
     simp only [List.set_cons_succ, List.set_cons_zero] at H29
     obtain ⟨z1, hz1⟩ : ∃ z1 : UP, z1 = ⟨{ u with again := ⟨r0.sn, r.f + m, r0.t⟩ :: l }, x.a, x.c, x.a2, x.c2⟩ := ⟨_, rfl⟩
     refine H29.drew ?_; clear H29; intro w30 H29
     have hi2 : (.blk b0 Ty_api_Sender (encSd s a c) :: .blk b1 Ty_api_Sender (encSd .zero none 0) :: .blk b Ty_sender_side (encSd s (some ⟨g, 0, none⟩) uc) :: .els encUP Ty_api_Unit 5 (some ⟨g, 0, none⟩) uc L :: .blk bp Ty_api_Piece (encPc q1 pa pc) :: (L.map agR).set k (.els encR Ty_api_Range 3 (some ⟨ga, 0, none⟩) x.c2 (⟨r0.sn, r.f + m, r0.t⟩ :: l)) : List Res)[k + 5]? = some (.els encR Ty_api_Range 3 (some ⟨ga, 0, none⟩) x.c2 (⟨r0.sn, r.f + m, r0.t⟩ :: l)) := by
      show ((L.map agR).set k _)[k]? = _
      rw [List.getElem?_set_self (by rw [List.length_map]; exact hkL)]
     have a4 := ha4 H29
     rw [hga] at a4
     refine ⟨_, _, _, a4, ?_⟩
     refine kIx_at ⟨by omega, by omega⟩ ?_
     rw [el0]
     refine ⟨_, H29.cellEl encR_ok hi2 (k := 0) (by simp) (j := 1) (v := .int .i64 (r.f + m)) (by decide) (by rfl), ?_⟩
     refine ⟨_, _, _, a4, ?_⟩
     refine kIx_at ⟨by omega, by omega⟩ ?_
     rw [el2]
     refine ⟨_, H29.cellEl encR_ok hi2 (k := 0) (by simp) (j := 2) (v := .int .i64 r0.t) (by decide) (by rfl), ?_⟩
     have e1 : (L.map agR).set k (.els encR Ty_api_Range 3 (some ⟨ga, 0, none⟩) x.c2 (⟨r0.sn, r.f + m, r0.t⟩ :: l)) = (L.set k z1).map agR := by
      rw [List.map_set, hz1, <- hga]; rfl
     rw [e1] at H29
     have H30 := shareAg (R := [_, _, _, _, _]) H29
     have rng : ∀ {z : UP} {w : World}, (SlR (CE encR) 3 w x.a2 (⟨r0.sn, r.f + m, r0.t⟩ :: l) -> SlR (CE encR) 3 w z.a2 z.u.again) -> RngR (L.set k z1) w -> RngR (L.set k z) w := fun {z w} hzz h v hv => by
      obtain ⟨j, hj, rfl⟩ := List.getElem_of_mem hv
      have hj' : j < (L.set k z1).length := by simpa using hj
      have h1 := h _ (List.getElem_mem hj')
      by_cases hjk : k = j
      ·subst hjk
       simp only [List.getElem_set_self] at h1 ⊢
       rw [hz1] at h1
       exact hzz h1
      ·simp only [List.getElem_set_ne hjk] at h1 ⊢
       exact h1
     refine bsplit_dec (fun c8 => ?_) (fun c8 => ?_)
     ·refine ⟨_, _, _, a4, ?_⟩
      refine ⟨⟨by omega, by omega⟩, ?_⟩
      have htk : takeU u m = { u with again := l } := by unfold takeU; rw [hag]; rw [hr0] at c8; exact if_pos c8
      obtain ⟨z, hz⟩ : ∃ z : UP, z = ⟨takeU u m, x.a, x.c, slAddr x.c2 1 3 x.a2, x.c2 - 1⟩ := ⟨_, rfl⟩
      rw [<- hga]
      refine H30.setEl encUP_ok (i := 3) rfl hkL (j := 4) (by decide) z (by rw [<- hx, hz, htk, hag, <- hxu]; rfl) ?_
      clear H30; intro w31 f31 H31
      simp only [List.set_cons_succ, List.set_cons_zero] at H31
      exact ⟨rfl, L.set k z, by rw [hmap, hz], H31.imp fun w h => ⟨h.2.1, hdat (by rw [hz]) (by rw [hz, htk, hxu]) h.2.2, rng (fun hs => by rw [hz, htk]; exact hs.tailE (l := 1) hcap) h.1⟩⟩
     ·have htk : takeU u m = { u with again := ⟨r0.sn, r.f + m, r0.t⟩ :: l } := by unfold takeU; rw [hag]; rw [hr0] at c8 ⊢; exact if_neg c8
      have e2 : (.els encUP Ty_api_Unit 5 (some ⟨g, 0, none⟩) uc L : Res) = .els encUP Ty_api_Unit 5 (some ⟨g, 0, none⟩) uc (L.set k z1) := by
       have e3 : encUP z1 = encUP L[k] := by rw [<- hx, hz1]; simp only [encUP, encU, hxu, hag, List.length_cons]
       have e4 : (L.set k z1).map encUP = L.map encUP := by
        rw [List.map_set, e3]
        exact list_set_self (by rw [List.getElem?_map, List.getElem?_eq_getElem hkL]; rfl)
       simp only [Res.els, List.length_set, List.flatMap_def, e4]
      rw [e2] at H30
      exact ⟨rfl, L.set k z1, by rw [hmap, hz1, htk], H30.imp fun w h => ⟨h.2.1, hdat (by rw [hz1]) (by rw [hz1, hxu]) h.2.2, h.1⟩⟩
   refine htake.mono ?_; clear htake H50
   rintro _ w33 ⟨rfl, L', hL', H33⟩
   refine ⟨rfl, ?_⟩
   have hpc1 := okB_pieces hok
   have hev := hlk.2.1
   obtain ⟨s1, hs1'⟩ : ∃ s1 : Sd, s1 = { s with units := s.units.set k (takeU u m), pieces := s.pieces + 1 } := ⟨_, rfl⟩
   have hu1 : s1.units = s.units.set k (takeU u m) := by rw [hs1']
   have hl1 : s1.lk = s.lk := by rw [hs1']
   have hn1 : s1.units.length = s.units.length := by rw [hu1, List.length_set]
   have hbT : buildT s k u q1 = if s1.pieces = s.lk.every \/ leftI s1.units < 0 then (askS s1, (encP s.lk.bits { q1 with poll := 1 }).1, 0) else (s1, (encP s.lk.bits q1).1, 0) := by rw [hs1', hm]; rfl
   refine kNil_in ?_
   rw [add_mk]
   refine H33.ld (i := 2) rfl rfl ?_
   refine kW_i64 (by omega) ?_
   refine kNil_in ?_
   rw [add_mk]
   refine H33.set (i := 2) rfl (by show 0 + 9 < 13; decide) ?_; clear H33; intro w34 H34
   simp only [List.set_cons_succ, List.set_cons_zero] at H34
   have e9 : (encSd s (some ⟨g, 0, none⟩) uc).set (0 + 9) (.int .i64 (s.pieces + 1)) = encSd s1 (some ⟨g, 0, none⟩) uc := by
    rw [hs1']; simp only [encSd, List.length_set]; rfl
   rw [e9] at H34
   have hUn : ∀ {w' : World}, Dat0 L' w' -> RngR L' w' -> SlR (CE encUP) 5 w' (some ⟨g, 0, none⟩) L' -> UnR w' (some ⟨g, 0, none⟩) s1.units := fun h1 h2 h3 => by
    rw [hu1, <- hL']; exact up_unR h3 h1 h2
   refine ⟨fun w42 => ∃ (t : Sd) (q2 : Pc), buildT s k u q1 = (t, (encP s.lk.bits q2).1, 0) /\ (encP s.lk.bits q2).2 = 0 /\ q2.data = q1.data /\ t.units = s1.units /\ t.lk = s.lk /\ St (fun _ => False) [] w w42 [.blk b0 Ty_api_Sender (encSd s a c), .blk b1 Ty_api_Sender (encSd .zero none 0), .blk b Ty_sender_side (encSd t (some ⟨g, 0, none⟩) uc), .els encUP Ty_api_Unit 5 (some ⟨g, 0, none⟩) uc L', .blk bp Ty_api_Piece (encPc q2 pa pc)] (fun w => SlR (IntC .u8) 1 w pa q1.data /\ Dat0 L' w /\ RngR L' w), ?_, ?_⟩
   ·rintro _ w42 ⟨t, q2, hbt, hq0, hqd, htu, htl, H42⟩
    refine H42.drew ?_; clear H42; intro w43 H43
    refine ⟨(· < w43.heap.size), ?_⟩
    refine kNil_in ?_
    refine H43.ld (i := 2) rfl rfl ?_
    refine ⟨_, _, _, _, _, _, _, H43.cells (i := 4) rfl, ?_⟩
    refine (segment_Encode_ct (d := q2.data) (by rw [hqd]; exact H43.get.1) (by rw [hqd]; omega)).mono ?_
    rintro _ w44 ⟨ba, bc, hbl, rfl, K44⟩
    have hb44 := K44.below
    have H44 := H43.callF K44; clear H43
    simp only [List.append_nil] at H44
    refine ⟨_, _, _, _, rfl, ?_⟩
    refine ⟨hb44.keeps, ?_⟩
    refine kNil_in ?_
    refine ⟨_, _, _, _, _, _, _, _, _, _, _, _, _, _, _, H44.cells (i := 2) rfl, ?_⟩
    refine H44.store (i := 1) rfl (by rfl) (by rfl) ?_; clear H44; intro w45 H45
    simp only [List.set_cons_succ, List.set_cons_zero] at H45
    refine ⟨_, _, _, _, _, _, _, _, _, _, _, _, _, _, _, H45.cells (i := 1) rfl, ?_⟩
    rw [hbt]
    have hE : encP t.lk.bits ⟨q2.sn, q2.part, q2.poll, q2.off, q2.data⟩ = encP s.lk.bits q2 := by rw [htl]
    rw [hE] at H45 hbl ⊢
    rw [hq0]
    refine ⟨_, _, _, _, hbl, rfl, (H45.shareE encUP_ok (i := 3) rfl).fin.imp fun w h => ⟨?_, h.2.1⟩⟩
    rw [htu]
    exact hUn h.2.2.2.1 h.2.2.2.2 h.1
   ·have hask : ∀ {w' : World} {K : Value -> World -> Prop}, (s1.pieces = s.lk.every \/ leftI s1.units < 0) -> St (fun _ => False) [] w w' [.blk b0 Ty_api_Sender (encSd s a c), .blk b1 Ty_api_Sender (encSd .zero none 0), .blk b Ty_sender_side (encSd s1 (some ⟨g, 0, none⟩) uc), .els encUP Ty_api_Unit 5 (some ⟨g, 0, none⟩) uc L', .blk bp Ty_api_Piece (encPc q1 pa pc)] (fun w => SlR (IntC .u8) 1 w pa q1.data /\ Dat0 L' w /\ RngR L' w) ->
     Calls Tryz.prog N_sender_side_ask #[(.pointer (some ⟨b, 0, none⟩)), (.pointer (some ⟨bp, 0, none⟩))] w' fun e w42 => e = .returned (.tuple #[]) /\ ∃ (t : Sd) (q2 : Pc), buildT s k u q1 = (t, (encP s.lk.bits q2).1, 0) /\ (encP s.lk.bits q2).2 = 0 /\ q2.data = q1.data /\ t.units = s1.units /\ t.lk = s.lk /\ St (fun _ => False) [] w w42 [.blk b0 Ty_api_Sender (encSd s a c), .blk b1 Ty_api_Sender (encSd .zero none 0), .blk b Ty_sender_side (encSd t (some ⟨g, 0, none⟩) uc), .els encUP Ty_api_Unit 5 (some ⟨g, 0, none⟩) uc L', .blk bp Ty_api_Piece (encPc q2 pa pc)] (fun w => SlR (IntC .u8) 1 w pa q1.data /\ Dat0 L' w /\ RngR L' w) := fun {w' K} hc H36 => by
     rw [if_pos hc] at hbT
     refine F_sender_side_ask_ok b 0 bp 0 w' ?_
     unfold F_sender_side_ask
     refine H36.set (i := 4) rfl (by show 0 + 2 < 5; decide) ?_; clear H36; intro w37 H37
     simp only [List.set_cons_succ, List.set_cons_zero] at H37
     refine H37.ld (i := 2) rfl rfl ?_
     refine H37.set (i := 2) rfl (by show 0 + 9 < 13; decide) ?_; clear H37; intro w38 H38
     simp only [List.set_cons_succ, List.set_cons_zero] at H38
     refine H38.set (i := 2) rfl (by show 0 + 11 < 13; decide) ?_; clear H38; intro w39 H39
     simp only [List.set_cons_succ, List.set_cons_zero] at H39
     refine H39.ldS (i := 2) rfl rfl ?_
     refine ⟨fun i => ((s1.units.length - i).toNat, fun w39 => ∃ j : Nat, i = j /\ j <= s1.units.length /\ St (fun _ => False) [] w w39 [.blk b0 Ty_api_Sender (encSd s a c), .blk b1 Ty_api_Sender (encSd .zero none 0), .blk b Ty_sender_side (encSd { s1 with pieces := 0, left := s1.lk.poll, poll := lastSn (s1.units.take j) s1.poll } (some ⟨g, 0, none⟩) uc), .els encUP Ty_api_Unit 5 (some ⟨g, 0, none⟩) uc L', .blk bp Ty_api_Piece (encPc { q1 with poll := 1 } pa pc)] (fun w => SlR (IntC .u8) 1 w pa q1.data /\ Dat0 L' w /\ RngR L' w)), ⟨0, rfl, by omega, H39⟩, ?_⟩
     clear H39
     rintro _ i w39 ⟨j, rfl, hj39, H39⟩
     refine bsplit_dec (fun c12 => ?_) (fun c12 => ?_)
     ·have hjl : j < s1.units.length := by omega
      have hstp := lastSn_step (d := s1.poll) hjl
      have hu39 := hUn H39.get.2.1 H39.get.2.2 (H39.slE encUP_ok (i := 3) rfl)
      refine ixU hu39 j rfl hjl fun b8 hb8 => ?_
      obtain ⟨_, _, _, _, hb8, _, _⟩ := hb8
      refine ⟨_, _, _, _, _, _, _, _, _, hb8, ?_⟩
      refine H39.alloc ?_; clear H39; intro b9 w40 H40
      simp only [List.cons_append, List.nil_append] at H40
      refine H40.store (i := 5) rfl (by rfl) (by rfl) ?_; clear H40; intro w41 H41
      simp only [List.set_cons_succ, List.set_cons_zero] at H41
      refine H41.ld (i := 5) rfl rfl ?_
      refine bsplit_dec (fun c11 => ?_) (fun c11 => ?_)
      ·rw [if_pos c11] at hstp
       refine H41.ld (i := 5) rfl rfl ?_
       refine H41.set (i := 2) rfl (by show 0 + 10 < 13; decide) ?_; clear H41; intro w42 H42
       simp only [List.set_cons_succ, List.set_cons_zero] at H42
       refine kW_i64 (by omega) ?_
       exact ⟨⟨j + 1, by omega, by omega, by rw [hstp]; exact St.dropLast (R := [_, _, _, _, _]) H42⟩, by first | omega | (dsimp only; omega)⟩
      ·rw [if_neg c11] at hstp
       refine kW_i64 (by omega) ?_
       exact ⟨⟨j + 1, by omega, by omega, by rw [hstp]; exact St.dropLast (R := [_, _, _, _, _]) H41⟩, by first | omega | (dsimp only; omega)⟩
     ·obtain rfl : j = s1.units.length := by omega
      rw [List.take_length] at H39
      have hok2 : Pc.ok s.lk.bits { q1 with poll := 1 } := ⟨hqo.1, hqo.2.1, hqo.2.2.1, ⟨by show (0 : Int) <= 1; decide, by show (1 : Int) <= 1; decide⟩, hqo.2.2.2.2⟩
      exact ⟨rfl, askS s1, { q1 with poll := 1 }, hbT, by rw [encP, if_pos hok2], rfl, rfl, hl1, H39⟩
    refine H34.drew ?_; clear H34; intro w35 H35
    refine ⟨(· < w35.heap.size), ?_⟩
    refine kNil_in ?_
    rw [add_mk]
    refine H35.ld (i := 2) (x := s1.pieces) rfl rfl ?_
    refine kNil_in ?_
    rw [add_mk]
    refine H35.ld (i := 2) (x := s1.lk.every) rfl rfl ?_
    refine bsplit_dec (fun c10 => ?_) (fun c10 => ?_)
    ·exact hask (K := fun _ _ => True) (.inl (by rw [c10, hl1])) H35
    ·refine (sender_side_left_ct (s := s1) (b := b) (o := 0) ⟨_, uc, H35.cells (i := 2) rfl, hUn H35.get.2.1 H35.get.2.2 (H35.slE encUP_ok (i := 3) rfl)⟩ (by omega)).mono ?_
     rintro _ w36 ⟨rfl, hb36⟩; have H36 := H35.pass hb36; clear H35
     refine ⟨_, rfl, ?_⟩
     refine ⟨hb36.keeps, ?_⟩
     refine bsplit_dec (fun c11 => ?_) (fun c11 => ?_)
     ·exact hask (K := fun _ _ => True) (.inr c11) H36
     ·rw [if_neg (fun h => by
       rcases h with h | h
       ·exact c10 (by rw [h, hl1])
       ·exact c11 h)] at hbT
      refine ⟨s1, q1, hbT, by rw [encP, if_pos hqo], rfl, rfl, hl1, H36⟩
  ·
   refine H21.drew ?_; clear H21; intro w22 H22
   refine ⟨(· < w22.heap.size), ?_⟩
   refine kNil_in ?_
   refine ⟨H22.lt (i := 2) rfl rfl, ?_⟩
   refine H22.ld (i := 2) rfl rfl ?_
   refine ⟨H22.lt (i := 4) rfl rfl, ?_⟩
   refine ⟨_, _, _, _, _, _, _, H22.cells (i := 4) rfl, ?_⟩
   have hcut : ∀ {w' : World} (T : List Res) {P : World -> Prop} {K : Ending -> World -> Prop}, St (fun _ => False) [] w w' T (fun w => SlR (IntC .u8) 1 w da (pieceU u).data /\ P w) ->
    (∀ pa pc pa' pc' w'', Below w'.heap.size w' w'' -> St (fun _ => False) [] w w'' T (fun w => SlR (IntC .u8) 1 w pa cu.1.data /\ P w) -> K (.returned (.tuple #[(.agg #[.int .i64 cu.1.sn, .int .i64 cu.1.part, .int .i64 cu.1.poll, .int .i64 cu.1.off, .slice pa cu.1.data.length pc]), (.agg #[.int .i64 cu.2.1.sn, .int .i64 cu.2.1.part, .int .i64 cu.2.1.poll, .int .i64 cu.2.1.off, .slice pa' cu.2.1.data.length pc']), .int .i64 cu.2.2])) w'') ->
    Calls Tryz.prog N_segment_Cut #[(.int .i64 s.lk.bits), (.agg #[.int .i64 (pieceU u).sn, .int .i64 (pieceU u).part, .int .i64 (pieceU u).poll, .int .i64 (pieceU u).off, .slice da (pieceU u).data.length dc]), (.int .i64 size)] w' K := fun {w'} T {P K} H hK => by
    refine (segment_Cut_ct H.get.1 (by omega) hdc hsz).mono ?_
    rintro _ w25 ⟨pa, pc, pa', pc', hpc, hpc', rfl, K25⟩
    have H25 := H.callF K25
    simp only [List.append_nil] at H25
    have := hK pa pc pa' pc' w25 K25.below (H25.imp fun w h => ⟨by rw [hcu]; exact h.1.1, h.2.2⟩)
    rw [hcu] at this
    exact this
   have fin2 : ∀ {w' : World} {bp bq : Nat} {pa pa' : Option Addr} {pc pc' : Nat} {cs1 cs2 : List Value}, cs1.length = 5 -> cs2.length = 5 -> Below w22.heap.size w22 w' -> w22.heap.size <= bp -> w22.heap.size <= bq ->
    St (fun _ => False) [] w w' (.blk b0 Ty_api_Sender (encSd s a c) :: .blk b1 Ty_api_Sender (encSd .zero none 0) :: .blk b Ty_sender_side (encSd s (some ⟨g, 0, none⟩) uc) :: .els encUP Ty_api_Unit 5 (some ⟨g, 0, none⟩) uc L :: .blk q Ty_api_Piece (encPc (pieceU u) da dc) :: .blk bp Ty_api_Piece cs1 :: .blk bq Ty_api_Piece cs2 :: L.map agR) (fun w => SlR (IntC .u8) 1 w pa cu.1.data /\ DatR L w) ->
    sxStore w' ⟨bp, 0, none⟩ 0 (encPc cu.1 pa pc) fun w48 => KeepsB (· < w22.heap.size) w22 w48 /\ sxStore w48 ⟨bq, 0, none⟩ 0 (encPc cu.2.1 pa' pc') fun w49 => KeepsB (· < w22.heap.size) w22 w49 /\
     (cu.2.2 = cu.2.2 /\ ∃ (bp' : Nat) (pa : Option Addr) (pc : Nat), (⟨bp, 0, none⟩ : Addr) = ⟨bp', 0, none⟩ /\
      St (fun _ => False) [] w w49 (.blk b0 Ty_api_Sender (encSd s a c) :: .blk b1 Ty_api_Sender (encSd .zero none 0) :: .blk b Ty_sender_side (encSd s (some ⟨g, 0, none⟩) uc) :: .els encUP Ty_api_Unit 5 (some ⟨g, 0, none⟩) uc L :: .blk bp' Ty_api_Piece (encPc cu.1 pa pc) :: L.map agR) (fun w => SlR (IntC .u8) 1 w pa cu.1.data /\ DatR L w)) := fun {w' bp bq pa pa' pc pc' cs1 cs2} h1 h2 hb hbp hbq H => by
    refine H.storeF (i := 5) rfl (by rw [h1]; rfl) (by rfl) ?_; intro w48 f48 H48
    simp only [List.set_cons_succ, List.set_cons_zero] at H48
    have hb48 := hb.frs f48 (by simpa using hbp) hb.size
    refine ⟨hb48.keeps, ?_⟩
    refine H48.storeF (i := 6) rfl (by rw [h2]; rfl) (by rfl) ?_; intro w49 f49 H49
    simp only [List.set_cons_succ, List.set_cons_zero] at H49
    have hb49 := hb48.frs f49 (by simpa using hbq) hb48.size
    refine ⟨hb49.keeps, rfl, bp, pa, pc, rfl, ?_⟩
    have H50 := St.skip (X := [_, _, _, _]) H49
    exact St.skip (X := [_, _, _, _, _]) H50
   have H22 : St (fun _ => False) [] w w22 (.blk b0 Ty_api_Sender (encSd s a c) :: .blk b1 Ty_api_Sender (encSd .zero none 0) :: .blk b Ty_sender_side (encSd s (some ⟨g, 0, none⟩) uc) :: .els encUP Ty_api_Unit 5 (some ⟨g, 0, none⟩) uc L :: .blk q Ty_api_Piece (encPc (pieceU u) da dc) :: L.map agR) (fun w => SlR (IntC .u8) 1 w da (pieceU u).data /\ DatR L w) := H22
   have hb0 := Below.refl w22.heap.size w22
   refine ⟨?_, ?_, ?_, trivial⟩
   ·refine hcut _ H22 fun pa pc pa' pc' wc hbc Hc => ?_
    refine ⟨_, _, _, _, _, _, _, _, _, _, _, _, _, _, _, rfl, ?_⟩
    have jc := below_step hb0 (Nat.le_refl _) hbc
    have jz := jc.size
    refine ⟨jc.keeps, ?_, ?_, trivial⟩
    ·refine Hc.allocN ?_; intro x1 v1 e1 k1 K1
     have K1 := St.lastTo (X := [_, _, _, _, _]) K1
     simp only [List.cons_append, List.nil_append] at K1
     have j1 := below_step jc (Nat.le_refl _) k1
     refine ⟨j1.keeps, ?_⟩
     refine K1.allocN ?_; intro x2 v2 e2 k2 K2
     have K2 := St.lastTo (X := [_, _, _, _, _, _]) K2
     simp only [List.cons_append, List.nil_append] at K2
     have j2 := below_step j1 (Nat.le_refl _) k2
     refine ⟨j2.keeps, ?_⟩
     have jz1 := j1.size
     exact fin2 rfl rfl j2 (by omega) (by omega) K2
    ·refine Hc.allocN ?_; intro x1 v1 e1 k1 K1
     have K1 := St.lastTo (X := [_, _, _, _, _]) K1
     simp only [List.cons_append, List.nil_append] at K1
     have j1 := below_step jc (Nat.le_refl _) k1
     refine ⟨j1.keeps, ?_⟩
     refine K1.allocN ?_; intro x2 v2 e2 k2 K2
     have K2 := St.lastTo (X := [_, _, _, _, _]) K2
     simp only [List.cons_append, List.nil_append] at K2
     have j2 := below_step j1 (Nat.le_refl _) k2
     refine ⟨j2.keeps, ?_⟩
     have jz1 := j1.size
     exact fin2 rfl rfl j2 (by omega) (by omega) K2
   ·refine H22.allocN ?_; intro x1 v1 e1 k1 K1
    have K1 := St.lastTo (X := [_, _, _, _, _]) K1
    simp only [List.cons_append, List.nil_append] at K1
    have j1 := below_step hb0 (Nat.le_refl _) k1
    have jz1 := j1.size
    refine ⟨j1.keeps, ?_, ?_, trivial⟩
    ·refine hcut _ K1 fun pa pc pa' pc' wc hbc Hc => ?_
     refine ⟨_, _, _, _, _, _, _, _, _, _, _, _, _, _, _, rfl, ?_⟩
     have jc := below_step j1 (Nat.le_refl _) hbc
     have jz := jc.size
     refine ⟨jc.keeps, ?_⟩
     refine Hc.allocN ?_; intro x2 v2 e2 k2 K2
     have K2 := St.lastTo (X := [_, _, _, _, _, _]) K2
     simp only [List.cons_append, List.nil_append] at K2
     have j2 := below_step jc (Nat.le_refl _) k2
     refine ⟨j2.keeps, ?_⟩
     exact fin2 rfl rfl j2 (by omega) (by omega) K2
    ·refine K1.allocN ?_; intro x2 v2 e2 k2 K2
     have K2 := St.lastTo (X := [_, _, _, _, _, _]) K2
     simp only [List.cons_append, List.nil_append] at K2
     have j2 := below_step j1 (Nat.le_refl _) k2
     refine ⟨j2.keeps, ?_⟩
     refine hcut _ K2 fun pa pc pa' pc' wc hbc Hc => ?_
     refine ⟨_, _, _, _, _, _, _, _, _, _, _, _, _, _, _, rfl, ?_⟩
     have jc := below_step j2 (Nat.le_refl _) hbc
     refine ⟨jc.keeps, ?_⟩
     exact fin2 rfl rfl jc (by omega) (by omega) Hc
   ·refine H22.allocN ?_; intro x1 v1 e1 k1 K1
    have K1 := St.lastTo (X := [_, _, _, _, _]) K1
    simp only [List.cons_append, List.nil_append] at K1
    have j1 := below_step hb0 (Nat.le_refl _) k1
    have jz1 := j1.size
    refine ⟨j1.keeps, ?_, ?_, trivial⟩
    ·refine hcut _ K1 fun pa pc pa' pc' wc hbc Hc => ?_
     refine ⟨_, _, _, _, _, _, _, _, _, _, _, _, _, _, _, rfl, ?_⟩
     have jc := below_step j1 (Nat.le_refl _) hbc
     have jz := jc.size
     refine ⟨jc.keeps, ?_⟩
     refine Hc.allocN ?_; intro x2 v2 e2 k2 K2
     have K2 := St.lastTo (X := [_, _, _, _, _]) K2
     simp only [List.cons_append, List.nil_append] at K2
     have j2 := below_step jc (Nat.le_refl _) k2
     refine ⟨j2.keeps, ?_⟩
     exact fin2 rfl rfl j2 (by omega) (by omega) K2
    ·refine K1.allocN ?_; intro x2 v2 e2 k2 K2
     have K2 := St.lastTo (X := [_, _, _, _, _]) K2
     simp only [List.cons_append, List.nil_append] at K2
     have j2 := below_step j1 (Nat.le_refl _) k2
     refine ⟨j2.keeps, ?_⟩
     refine hcut _ K2 fun pa pc pa' pc' wc hbc Hc => ?_
     refine ⟨_, _, _, _, _, _, _, _, _, _, _, _, _, _, _, rfl, ?_⟩
     have jc := below_step j2 (Nat.le_refl _) hbc
     refine ⟨jc.keeps, ?_⟩
     exact fin2 rfl rfl jc (by omega) (by omega) Hc
 ·have hpd : (pieceU u).data = (u.data.drop r.f.toNat).take (r.t.toNat - r.f.toNat) := by
   show (u.data.take (partU u).t.toNat).drop (partU u).f.toNat = _
   rw [<- hr, List.drop_take]
  have hpl : (pieceU u).data.length = r.t.toNat - r.f.toNat := by rw [hpd, List.length_take, List.length_drop]; omega
  refine H11.drew ?_; clear H11; intro w12 H12
  obtain ⟨hxd, hxc⟩ := H12.get.1 x hxm
  rw [hxu] at hxd hxc
  refine ⟨(· < w12.heap.size), ?_⟩
  have c0 := H12.cellEl encUP_ok (i := 3) rfl hkL (j := 0) (v := .int .i64 u.sn) (by decide) (by rw [<- hx, <- hxu]; rfl)
  have c1 := H12.cellEl encUP_ok (i := 3) rfl hkL (j := 1) (v := .slice x.a u.data.length x.c) (by decide) (by rw [<- hx, <- hxu]; rfl)
  have l4 := H12.lt (i := 4) rfl rfl
  refine ⟨cell_lt c0, ?_⟩
  refine ⟨_, c0, ?_⟩
  refine ⟨l4, ?_⟩
  refine H12.ld (i := 4) rfl rfl ?_
  refine ⟨l4, ?_⟩
  refine H12.ld (i := 4) rfl rfl ?_
  refine ⟨cell_lt c1, ?_⟩
  refine ⟨_, _, _, c1, ?_⟩
  refine ⟨l4, ?_⟩
  refine H12.ld (i := 4) rfl rfl ?_
  refine ⟨cell_lt c1, ?_⟩
  refine ⟨_, _, _, c1, ?_⟩
  refine ⟨l4, ?_⟩
  refine H12.ld (i := 4) rfl rfl ?_
  refine ⟨l4, ?_⟩
  refine H12.ld (i := 4) rfl rfl ?_
  refine ⟨⟨by omega, by omega⟩, ?_⟩
  refine ⟨⟨by omega, by omega⟩, ?_⟩
  have hda : ∀ w, DatR L w -> SlR (IntC .u8) 1 w (slAddr x.c r.f.toNat 1 x.a) (pieceU u).data := fun w h => by
   have h1 := (h x hxm).1
   rw [hxu] at h1
   rw [hpd]; exact h1.cutE hxc _
  have epc : [(.int .i64 u.sn), (.int .i64 (partOf (decide (r.f = 0)) (decide (r.t = u.data.length)))), (.int .i64 (0 : Int)), (.int .i64 r.f), (.slice (slAddr x.c r.f.toNat 1 x.a) (r.t.toNat - r.f.toNat) (x.c - r.f.toNat))] = encPc (pieceU u) (slAddr x.c r.f.toNat 1 x.a) (x.c - r.f.toNat) := by
   rw [<- hpl]; unfold encPc; rw [hr]; rfl

  have fin : ∀ {w' : World} {bq : Nat} {cs : List Value}, cs.length = 5 -> St (fun _ => False) [] w w' ((.blk b0 Ty_api_Sender (encSd s a c) :: .blk b1 Ty_api_Sender (encSd .zero none 0) :: .blk b Ty_sender_side (encSd s (some ⟨g, 0, none⟩) uc) :: .els encUP Ty_api_Unit 5 (some ⟨g, 0, none⟩) uc L :: .blk b3 Ty_api_Range [.int .i64 r.sn, .int .i64 r.f, .int .i64 r.t] :: L.map agR) ++ [.blk bq Ty_api_Piece cs]) (fun w => DatR L w /\ True) ->
   sxStore w' ⟨bq, 0, none⟩ 0 [(.int .i64 u.sn), (.int .i64 (partOf (decide (r.f = 0)) (decide (r.t = u.data.length)))), (.int .i64 (0 : Int)), (.int .i64 r.f), (.slice (slAddr x.c r.f.toNat 1 x.a) (r.t.toNat - r.f.toNat) (x.c - r.f.toNat))] fun w21 =>
    ∃ (q : Nat) (da : Option Addr) (dc : Nat), (⟨bq, 0, none⟩ : Addr) = ⟨q, 0, none⟩ /\ (pieceU u).data.length <= dc /\ St (fun _ => False) [] w w21 (.blk b0 Ty_api_Sender (encSd s a c) :: .blk b1 Ty_api_Sender (encSd .zero none 0) :: .blk b Ty_sender_side (encSd s (some ⟨g, 0, none⟩) uc) :: .els encUP Ty_api_Unit 5 (some ⟨g, 0, none⟩) uc L :: .blk b3 Ty_api_Range [.int .i64 r.sn, .int .i64 r.f, .int .i64 r.t] :: .blk q Ty_api_Piece (encPc (pieceU u) da dc) :: L.map agR) (fun w => SlR (IntC .u8) 1 w da (pieceU u).data /\ DatR L w) := fun {w' bq cs} hcs H => by
   have H1 := St.lastTo (X := [_, _, _, _, _]) H
   simp only [List.cons_append, List.nil_append] at H1
   rw [epc]
   refine H1.store (i := 5) rfl (by rw [hcs]; rfl) (by rfl) ?_; intro w21 H2
   simp only [List.set_cons_succ, List.set_cons_zero] at H2
   exact ⟨bq, _, _, rfl, by omega, H2.imp fun w h => ⟨hda w h.1, h.1⟩⟩
  refine ⟨?_, ?_, trivial⟩
  ·refine segment_Part_ct.mono ?_
   rintro _ w16 ⟨rfl, hb16⟩; have H16 := H12.pass hb16
   refine ⟨_, rfl, ?_⟩
   refine ⟨hb16.keeps, ?_⟩
   refine ⟨?_, ?_, trivial⟩
   ·refine ⟨hb16.keeps, ?_⟩
    refine H16.allocB ?_; intro b6 w19 hb19 H19
    refine ⟨(below_step hb16 (Nat.le_refl _) hb19).keeps, ?_⟩
    exact fin rfl H19
   ·refine H16.allocB ?_; intro b6 w19 hb19 H19
    refine ⟨(below_step hb16 (Nat.le_refl _) hb19).keeps, ?_⟩
    refine ⟨(below_step hb16 (Nat.le_refl _) hb19).keeps, ?_⟩
    exact fin rfl H19
  ·refine H12.allocB ?_; intro b4 w13 hb13 H13
   refine ⟨hb13.keeps, ?_⟩
   refine segment_Part_ct.mono ?_
   rintro _ w14 ⟨rfl, hb14⟩; have H14 := H13.pass hb14
   refine ⟨_, rfl, ?_⟩
   replace hb14 := below_step hb13 (Nat.le_refl _) hb14
   refine ⟨hb14.keeps, ?_⟩
   refine ⟨hb14.keeps, ?_⟩
   exact fin rfl H14
end Go.Proofs.YtmbppohkadmjgaaGreat
namespace Go.Proofs.YtmbppohkadmjgaaGreat
open Go.Sx Go.RowKit
set_option maxRecDepth 100000

theorem RetO.fresh {w w' : World} {x : Sd} {E : Int} {e : Ending} (h : RetO w x E e w') : ∃ a c, e = .returned (.tuple #[aggS x a c, .int .i64 E]) /\ Fresh w w' fun w => UnR w a x.units := by
 obtain ⟨a, c, L, hL, he, H⟩ := h
 have K := (shareAg (R := [.els encUP Ty_api_Unit 5 a c L]) H).shareE encUP_ok (i := 0) rfl
 exact ⟨a, c, he, K.fin.imp fun w h => by rw [<- hL]; exact up_unR h.1 h.2.2.out h.2.1⟩

def GU (L : List Un) : Prop := SmU L /\ ∀ u ∈ L, Bytes u.data
theorem gu_nil : GU [] := ⟨⟨by simp, fun u hu => by simp at hu⟩, fun u hu => by simp at hu⟩
theorem gu_zero : GU Sd.zero.units := gu_nil
theorem gu_of {L L' : List Un} {n : Nat} (h : GU L) (hn : n <= 1000000) (hl : L'.length <= L.length) (hm : ∀ u ∈ L', ∃ v ∈ L, u.data = v.data /\ (u.again.length <= v.again.length \/ u.again.length <= n)) : GU L' := by
 obtain ⟨⟨h1, h2⟩, h3⟩ := h
 refine ⟨⟨by omega, fun u hu => ?_⟩, fun u hu => ?_⟩
 ·obtain ⟨v, hv, e, h⟩ := hm u hu
  have := h2 v hv
  rw [e]
  omega
 ·obtain ⟨v, hv, e, _⟩ := hm u hu
  rw [e]; exact h3 v hv
theorem sub_gu {s : Sd} {d : List Int} (h : GU s.units) (hd : Bytes d) : GU (subS s d (begE s)).1.units := by
 unfold subS
 split
 ·exact gu_zero
 ·rename_i hE
  split
  ·exact gu_zero
  ·rename_i hl
   split
   ·exact gu_zero
   ·obtain ⟨hok, _⟩ := begE_ok (Decidable.not_not.1 hE)
    have hf := (okB_fit hok).1.1
    obtain ⟨⟨h1, h2⟩, h3⟩ := h
    refine ⟨⟨by simp only [List.length_append, List.length_cons, List.length_nil]; omega, fun u hu => ?_⟩, fun u hu => ?_⟩
    ·rcases List.mem_append.1 hu with hu | hu
     ·exact h2 u hu
     ·simp at hu; subst hu; simp; omega
    ·rcases List.mem_append.1 hu with hu | hu
     ·exact h3 u hu
     ·simp at hu; subst hu; exact hd
theorem takeU_data (u : Un) (n : Int) : (takeU u n).data = u.data /\ (takeU u n).sn = u.sn /\ (takeU u n).again.length <= u.again.length := by
 unfold takeU
 cases h : u.again with
 | nil => exact ⟨rfl, rfl, by simp [h]⟩
 | cons r l => dsimp only; split <;> exact ⟨rfl, rfl, by simp⟩
theorem mem_set_of {α : Type} {L : List α} {k : Nat} {x u : α} (h : u ∈ L.set k x) : u ∈ L \/ (u = x /\ k < L.length) := by
 rcases List.mem_or_eq_of_mem_set h with h1 | h1
 ·exact .inl h1
 ·by_cases hk : k < L.length
  ·exact .inr ⟨h1, hk⟩
  ·rw [List.set_eq_of_length_le (by omega)] at h; exact .inl h
theorem build_gu {s : Sd} {size : Int} (h : GU s.units) : GU (buildS s size (begE s)).1.units := by
 unfold buildS
 split
 ·exact gu_zero
 ·split
  ·exact gu_zero
  ·split
   ·exact gu_zero
   ·split
    ·exact gu_zero
    ·rename_i u hu
     split
     ·exact gu_zero
     ·have key : GU (s.units.set (leftI s.units).toNat (takeU u (cutP s.lk.bits (pieceU u) size).1.data.length)) := by
       refine gu_of (n := 0) h (by omega) (by simp) fun v hv => ?_
       have hum : u ∈ s.units := List.mem_of_getElem? hu
       rcases mem_set_of hv with hv | ⟨rfl, _⟩
       ·exact ⟨v, hv, rfl, .inl (Nat.le_refl _)⟩
       ·exact ⟨u, hum, (takeU_data u _).1, .inl (takeU_data u _).2.2⟩
      unfold buildT
      dsimp only
      split <;> exact key
theorem tick_gu {s : Sd} (h : GU s.units) : GU (tickS s (begE s)).1.units := by
 have last : ∀ t : Sd, t.units = s.units -> GU (lastS t).units := fun t ht => by
  unfold lastS
  split
  ·rw [ht]; exact h
  ·rename_i u hu
   have hum : u ∈ t.units := List.mem_of_getElem? hu
   rw [ht] at hum
   split
   ·refine gu_of (n := 1) h (by omega) (by rw [ht]; simp) fun v hv => ?_
    rw [ht] at hv
    rcases mem_set_of hv with hv | ⟨rfl, _⟩
    ·exact ⟨v, hv, rfl, .inl (Nat.le_refl _)⟩
    ·exact ⟨u, hum, rfl, .inr (by simp [tryU])⟩
   ·refine gu_of (n := 1) h (by omega) (by rw [ht]; simp) fun v hv => ?_
    rw [ht] at hv
    rcases mem_set_of hv with hv | ⟨rfl, _⟩
    ·exact ⟨v, hv, rfl, .inl (Nat.le_refl _)⟩
    ·exact ⟨u, hum, rfl, .inr (by simp [tryU])⟩
 unfold tickS
 split
 ·exact gu_zero
 ·split
  ·exact h
  ·split
   ·exact h
   ·unfold tickT
    dsimp only
    split
    ·exact h
    ·exact last _ rfl
theorem rep_mem {s : Sd} {r : Stt} : ∀ (k : Nat), k <= s.units.length -> ∀ u ∈ (repF s r k).1, ∃ v ∈ s.units, u.data = v.data /\ u.sn = v.sn /\ u.sent = v.sent /\ (u.again = v.again \/ u.again = (missS v r.miss).1)
 | 0, _, u, hu => by simp [repF] at hu
 | k + 1, hk, u, hu => by
  have ih := rep_mem (s := s) (r := r) k (by omega)
  rw [repF_step (by omega)] at hu
  have hm : s.units[k]'(by omega) ∈ s.units := List.getElem_mem _
  unfold repStep at hu
  split at hu
  ·rcases List.mem_append.1 hu with hu | hu
   ·exact ih u hu
   ·simp at hu; subst hu; exact ⟨_, hm, rfl, rfl, rfl, .inl rfl⟩
  ·split at hu
   ·split at hu
    ·split at hu
     ·rcases List.mem_append.1 hu with hu | hu
      ·exact ih u hu
      ·simp at hu; subst hu; exact ⟨_, hm, rfl, rfl, rfl, .inr rfl⟩
     ·rcases List.mem_append.1 hu with hu | hu
      ·exact ih u hu
      ·simp at hu; subst hu; exact ⟨_, hm, rfl, rfl, rfl, .inr rfl⟩
    ·rcases List.mem_append.1 hu with hu | hu
     ·exact ih u hu
     ·simp at hu; subst hu; exact ⟨_, hm, rfl, rfl, rfl, .inr rfl⟩
   ·split at hu
    ·exact ih u hu
    ·rcases List.mem_append.1 hu with hu | hu
     ·exact ih u hu
     ·simp at hu; subst hu; exact ⟨_, hm, rfl, rfl, rfl, .inl rfl⟩
theorem rep_gu {s : Sd} {r : Stt} (h : GU s.units) (hr : r.miss.length <= 1000000) : GU (repS s r).1.units := by
 unfold repS
 split
 ·exact gu_zero
 ·split
  ·exact gu_zero
  ·split
   ·exact gu_zero
   ·have e : (repT s r).units = (repF s r s.units.length).1 := by
     unfold repT repF
     rw [List.take_length]
    rw [e]
    refine gu_of (n := r.miss.length) h hr (repF_len (Nat.le_refl _)) fun u hu => ?_
    obtain ⟨v, hv, h1, _, _, h2⟩ := rep_mem _ (Nat.le_refl _) u hu
    refine ⟨v, hv, h1, ?_⟩
    rcases h2 with h2 | h2
    ·exact .inl (by rw [h2]; exact Nat.le_refl _)
    ·refine .inr ?_
     rw [h2]
     have := missS_len (u := v) (M := r.miss) (k := r.miss.length) (Nat.le_refl _)
     rwa [List.take_length] at this
theorem bytes_memD {xs : List Int} : Bytes xs ↔ ∀ x ∈ xs, 0 <= x /\ x < 256 :=
 ⟨fun h x hx => by obtain ⟨i, hi, rfl⟩ := List.getElem_of_mem hx; exact h i hi, fun h i hi => h _ (List.getElem_mem hi)⟩
theorem build_bytes {s : Sd} {size : Int} (h : GU s.units) : Bytes (buildS s size (begE s)).2.1 := by
 have nb : Bytes [] := fun i hi => by simp at hi
 unfold buildS
 split
 ·exact nb
 ·split
  ·exact nb
  ·split
   ·exact nb
   ·split
    ·exact nb
    ·rename_i u hu
     split
     ·exact nb
     ·have hum : u ∈ s.units := List.mem_of_getElem? hu
      have hd := bytes_memD.1 (h.2 u hum)
      have hp : ∀ x ∈ (pieceU u).data, x ∈ u.data := fun x hx => List.mem_of_mem_take (List.mem_of_mem_drop hx)
      have hc : ∀ x ∈ (cutP s.lk.bits (pieceU u) size).1.data, x ∈ (pieceU u).data := fun x hx => by
       unfold cutP at hx
       split at hx
       ·simp [Pc.zero] at hx
       ·split at hx
        ·simp [Pc.zero] at hx
        ·split at hx
         ·exact hx
         ·exact List.mem_of_mem_take hx
      have hb : Bytes (cutP s.lk.bits (pieceU u) size).1.data := bytes_memD.2 fun x hx => hd x (hp x (hc x hx))
      unfold buildT
      dsimp only
      split
      ·exact encP_bytes hb
      ·exact encP_bytes hb
end Go.Proofs.YtmbppohkadmjgaaGreat
namespace Go.Sx
def relU (s : Sd) (v u : Un) : Prop := s.place v.sn < s.place u.sn /\ (0 < u.sent -> wholeU v)
theorem unB_iff {l : Lk} {u : Un} : unB l u = true ↔ unNum l u /\ normB (-1) u.again = true /\ ∀ r ∈ u.again, r.sn = u.sn /\ r.t <= u.sent := by
 unfold unB
 simp only [Bool.and_eq_true, decide_eq_true_eq, Bool.not_eq_true', List.any_eq_false, offR]
 constructor
 ·rintro ⟨⟨h1, h2⟩, h3⟩
  exact ⟨h1, h2, fun r hr => by have := h3 r hr; omega⟩
 ·rintro ⟨h1, h2, h3⟩
  exact ⟨⟨h1, h2⟩, fun r hr => by have := h3 r hr; omega⟩
theorem unitsFrom_iff {s : Sd} : ∀ {L : List Un} {p : Option Un}, unitsFrom s p L = true ↔ (∀ u ∈ L, unB s.lk u = true /\ s.place u.sn < s.place s.next) /\ L.Pairwise (relU s) /\ ∀ v, p = some v -> ∀ u ∈ L, relU s v u
 | [], p => by simp [unitsFrom]
 | u :: l, p => by
  have ih := unitsFrom_iff (s := s) (L := l) (p := some u)
  simp only [unitsFrom, Bool.and_eq_true, decide_eq_true_eq]
  rw [ih, List.pairwise_cons]
  constructor
  ·rintro ⟨⟨⟨h1, h2⟩, h3⟩, h4, h5, h6⟩
   refine ⟨fun v hv => ?_, ⟨fun w hw => h6 u rfl w hw, h5⟩, ?_⟩
   ·rcases List.mem_cons.1 hv with rfl | hv
    ·exact ⟨h1, h2⟩
    ·exact h4 v hv
   ·rintro v rfl w hw
    simp only [behindB, Bool.and_eq_true, Bool.or_eq_true, decide_eq_true_eq] at h3
    rcases List.mem_cons.1 hw with rfl | hw
    ·exact ⟨h3.1, fun h => h3.2.elim id fun h' => by omega⟩
    ·have h7 := h6 u rfl w hw
     refine ⟨by have := h7.1; omega, fun h => ?_⟩
     have hu := h7.2 h
     have hn := (unB_iff.1 h1).1.2.1
     unfold wholeU at hu
     exact h3.2.elim id fun h' => by omega
  ·rintro ⟨h1, ⟨h2, h3⟩, h4⟩
   have hu := h1 u (by simp)
   refine ⟨⟨hu, ?_⟩, fun v hv => h1 v (by simp [hv]), h3, ?_⟩
   ·cases p with
    | none => rfl
    | some v =>
     have := h4 v rfl u (by simp)
     simp only [behindB, Bool.and_eq_true, Bool.or_eq_true, decide_eq_true_eq]
     refine ⟨this.1, ?_⟩
     rcases Int.lt_or_le 0 u.sent with h | h
     ·exact .inl (this.2 h)
     ·exact .inr h
   ·rintro v hv w hw
    injection hv with hv; subst hv
    exact h2 w hw
structure OkS (s : Sd) : Prop where
 lk : lkOk s.lk
 first : snOk s.lk.bits s.first
 next : snOk s.lk.bits s.next
 win : s.place s.next <= 2 ^ (s.lk.bits - 1).toNat
 nil : s.units = [] -> s.next = s.first
 head : ∀ u l, s.units = u :: l -> u.sn = s.first
 all : ∀ u ∈ s.units, unB s.lk u = true /\ s.place u.sn < s.place s.next
 pw : s.units.Pairwise (relU s)
 pieces : 0 <= s.pieces /\ s.pieces <= s.lk.every - 1
 poll : s.poll = -1 -> s.left = 0
 asked : s.poll ≠ -1 -> (∃ u ∈ s.units, u.sn = s.poll /\ 0 < u.sent) /\ 1 <= s.left /\ s.left <= s.lk.poll
theorem okB_iff {s : Sd} : s.okB = true ↔ OkS s := by
 unfold Sd.okB
 simp only [Bool.and_eq_true, decide_eq_true_eq]
 constructor
 ·rintro ⟨⟨⟨⟨h1, h2, h3, h4⟩, h5⟩, h6⟩, h7⟩
  have hu : (s.units = [] -> s.next = s.first) /\ (∀ u l, s.units = u :: l -> u.sn = s.first) /\ (∀ u ∈ s.units, unB s.lk u = true /\ s.place u.sn < s.place s.next) /\ s.units.Pairwise (relU s) := by
   unfold unitsB at h5
   split at h5
   ·rename_i hn
    rw [hn]
    exact ⟨fun _ => (by simpa using h5), fun u l h => (by cases h), fun u hu => (by simp at hu), List.Pairwise.nil⟩
   ·rename_i u l hn
    rw [hn]
    simp only [Bool.and_eq_true, decide_eq_true_eq] at h5
    have := unitsFrom_iff.1 h5.2
    exact ⟨fun h => (by cases h), fun v m h => (by injection h with h _; subst h; exact h5.1), this.1, this.2.1⟩
  refine ⟨h1, h2, h3, h4, hu.1, hu.2.1, hu.2.2.1, hu.2.2.2, h6, fun h => ?_, fun h => ?_⟩
  ·rw [if_pos h] at h7; simpa using h7
  ·rw [if_neg h] at h7
   simp only [Bool.and_eq_true, decide_eq_true_eq, askedB, List.any_eq_true] at h7
   exact h7
 ·intro h
  refine ⟨⟨⟨⟨h.lk, h.first, h.next, h.win⟩, ?_⟩, h.pieces⟩, ?_⟩
  ·unfold unitsB
   split
   ·rename_i hn; simpa using h.nil hn
   ·rename_i u l hn
    simp only [Bool.and_eq_true, decide_eq_true_eq]
    refine ⟨h.head u l hn, unitsFrom_iff.2 ⟨?_, ?_, fun v hv => by cases hv⟩⟩
    ·rw [<- hn]; exact h.all
    ·rw [<- hn]; exact h.pw
  ·split
   ·rename_i hp; simpa using h.poll hp
   ·rename_i hp
    simp only [Bool.and_eq_true, decide_eq_true_eq, askedB, List.any_eq_true]
    exact h.asked hp
theorem way_succ {b a x : Int} (hb : bitsOk b) (h : way b a x + 1 < 2 ^ b.toNat) : way b a ((x + 1) % 2 ^ b.toNat) = way b a x + 1 := by
 unfold way at h ⊢
 rcases pow_bits hb with e | e | e | e | e <;> rw [e] at h ⊢ <;> omega
theorem way_shift {b a f x : Int} (hb : bitsOk b) (h : way b a f <= way b a x) : way b f x = way b a x - way b a f := by
 unfold way at h ⊢
 rcases pow_bits hb with e | e | e | e | e <;> rw [e] at h ⊢ <;> omega
theorem way_self {b a : Int} : way b a a = 0 := by simp [way]
theorem half_lt {b : Int} (hb : bitsOk b) : (2 : Int) ^ (b - 1).toNat < 2 ^ b.toNat /\ (16 : Int) <= 2 ^ (b - 1).toNat := by
 have := pow_bits1 hb; omega
theorem OkS.same {s t : Sd} (h : OkS s) (hlk : t.lk = s.lk) (hf : t.first = s.first) (hn : t.next = s.next) (hu : t.units = s.units) (hp : 0 <= t.pieces /\ t.pieces <= s.lk.every - 1) (h1 : t.poll = -1 -> t.left = 0)
 (h2 : t.poll ≠ -1 -> (∃ u ∈ t.units, u.sn = t.poll /\ 0 < u.sent) /\ 1 <= t.left /\ t.left <= s.lk.poll) : OkS t := by
 have hpl : ∀ x, t.place x = s.place x := fun x => by unfold Sd.place; rw [hlk, hf]
 refine ⟨by rw [hlk]; exact h.lk, by rw [hlk, hf]; exact h.first, by rw [hlk, hn]; exact h.next, by rw [hpl, hlk, hn]; exact h.win, by rw [hu, hn, hf]; exact h.nil, by rw [hu, hf]; exact h.head, ?_, ?_, by rw [hlk]; exact hp, h1, by rw [hlk]; exact h2⟩
 ·rw [hu, hlk, hn]; intro u hm; rw [hpl, hpl]; exact h.all u hm
 ·rw [hu]; refine h.pw.imp fun {v u} hr => ?_
  unfold relU; rw [hpl, hpl]; exact hr
theorem sub_ok {s : Sd} {d : List Int} {E : Int} (h : OkS s) (he : (subS s d E).2 = 0) : OkS (subS s d E).1 /\ (subS s d E).1.lk = s.lk /\ (subS s d E).1.failed = s.failed := by
 unfold subS at he ⊢
 by_cases hE : E ≠ 0
 ·rw [if_pos hE] at he; exact absurd he hE
 rw [if_neg hE] at he ⊢
 by_cases hd : ¬ (1 <= d.length /\ d.length <= 2054)
 ·rw [if_pos hd] at he; exact absurd he (by decide)
 rw [if_neg hd] at he ⊢
 by_cases hf : s.place s.next = 2 ^ (s.lk.bits - 1).toNat
 ·rw [if_pos hf] at he; exact absurd he (by decide)
 rw [if_neg hf]
 refine ⟨?_, rfl, rfl⟩
 have hb := h.lk.1
 have hh := half_lt hb
 have hw := h.win
 obtain ⟨u0, hu0⟩ : ∃ u : Un, u = ⟨s.next, d, 0, 0, []⟩ := ⟨_, rfl⟩
 obtain ⟨t, ht⟩ : ∃ t : Sd, t = { s with units := s.units ++ [⟨s.next, d, 0, 0, []⟩], next := (s.next + 1) % 2 ^ s.lk.bits.toNat } := ⟨_, rfl⟩
 have hpl : ∀ x, t.place x = s.place x := fun x => by rw [ht]; rfl
 have hnx : t.place t.next = s.place s.next + 1 := by
  rw [hpl, ht]
  exact way_succ hb (show s.place s.next + 1 < _ by omega)
 have hmem : ∀ u ∈ t.units, u ∈ s.units \/ u = u0 := fun u hu => by
  rw [ht] at hu; simpa [hu0] using hu
 have hlk : t.lk = s.lk := by rw [ht]
 have hu : t.units = s.units ++ [u0] := by rw [ht, hu0]
 rw [<- ht]
 refine ⟨by rw [hlk]; exact h.lk, by rw [ht]; exact h.first, ?_, ?_, ?_, ?_, ?_, ?_, by rw [ht]; exact h.pieces, by rw [ht]; exact h.poll, ?_⟩
 ·rw [ht]
  show snOk s.lk.bits ((s.next + 1) % 2 ^ s.lk.bits.toNat)
  unfold snOk
  have : (0 : Int) < 2 ^ s.lk.bits.toNat := by omega
  exact ⟨Int.emod_nonneg _ (by omega), Int.emod_lt_of_pos _ this⟩
 ·rw [hnx, hlk]; omega
 ·intro hn; rw [hu] at hn; simp at hn
 ·intro v l hv
  rw [hu] at hv
  rw [show t.first = s.first by rw [ht]]
  cases hs : s.units with
  | nil =>
   rw [hs] at hv
   simp at hv
   rw [<- hv.1, hu0]; exact h.nil hs
  | cons x m =>
   rw [hs] at hv
   simp at hv
   rw [<- hv.1]; exact h.head x m hs
 ·intro u hm
  rw [hnx, hpl, hlk]
  rcases hmem u hm with hm | rfl
  ·have := h.all u hm; exact ⟨this.1, by omega⟩
  ·rw [hu0]
   refine ⟨unB_iff.2 ⟨⟨h.next, by dsimp only; omega, by dsimp only; omega, ?_⟩, rfl, fun r hr => by simp at hr⟩, by dsimp only; omega⟩
   have := h.lk.2.2.2.2.2
   dsimp only; omega
 ·rw [hu, List.pairwise_append]
  refine ⟨h.pw.imp fun {v u} hr => by unfold relU; rw [hpl, hpl]; exact hr, by simp, fun v hv u hm => ?_⟩
  simp at hm; subst hm
  unfold relU
  rw [hpl, hpl]
  have := (h.all v hv).2
  rw [hu0]
  exact ⟨this, fun h => by dsimp only at h; omega⟩
 ·intro hp
  rw [ht] at hp ⊢
  obtain ⟨⟨u, hm, h1, h2⟩, h3⟩ := h.asked hp
  exact ⟨⟨u, by simp [hm], h1, h2⟩, h3⟩
theorem normB_mono : ∀ {l : List Rg} {p q : Int}, q <= p -> normB p l = true -> normB q l = true
 | [], _, _, _, _ => rfl
 | r :: l, p, q, hpq, h => by
  simp only [normB, Bool.and_eq_true, decide_eq_true_eq] at h ⊢
  exact ⟨⟨by omega, h.1.2⟩, h.2⟩
theorem leftI_neg {L : List Un} : leftI L < 0 ↔ ∀ u ∈ L, askU u = false /\ restU u = false := by
 have key : ∀ (p : Un -> Bool), idx p L < 0 ↔ ∀ u ∈ L, p u = false := fun p => by
  have := idx_any p L
  constructor
  ·intro h u hu
   have h0 : decide (idx p L >= 0) = false := by simp; omega
   rw [h0] at this
   simpa using (List.any_eq_false.1 this.symm u hu)
  ·intro h
   have : L.any p = false := List.any_eq_false.2 fun u hu => by rw [h u hu]; decide
   rw [<- idx_any p L] at this
   simp at this; omega
 unfold leftI
 split
 ·rename_i h
  constructor
  ·intro h'; omega
  ·intro h'
   have := (key askU).2 fun u hu => (h' u hu).1
   omega
 ·rename_i h
  rw [key restU]
  have := (key askU).1 (by omega)
  exact ⟨fun h u hu => ⟨this u hu, h u hu⟩, fun h u hu => (h u hu).2⟩
theorem leftI_spec {L : List Un} {k : Nat} (hk : k < L.length) (h : leftI L = k) :
 (askU L[k] = true /\ ∀ j (hj : j < k), askU (L[j]'(by omega)) = false) \/ ((∀ u ∈ L, askU u = false) /\ restU L[k] = true /\ ∀ j (hj : j < k), restU (L[j]'(by omega)) = false) := by
 have first : ∀ (p : Un -> Bool), idx p L = k -> p L[k] = true /\ ∀ j (hj : j < k), p (L[j]'(by omega)) = false := fun p hp => by
  unfold idx at hp
  split at hp
  ·rename_i i hi
   obtain ⟨h1, h2, h3⟩ := List.findIdx?_eq_some_iff_getElem.1 hi
   obtain rfl : i = k := by omega
   exact ⟨h2, fun j hj => by simpa using h3 j hj⟩
  ·omega
 unfold leftI at h
 split at h
 ·exact .inl (first _ h)
 ·rename_i hn
  refine .inr ⟨fun u hu => ?_, (first _ h).1, (first _ h).2⟩
  have := idx_any askU L
  rw [show decide (idx askU L >= 0) = false by simpa using hn] at this
  simpa using List.any_eq_false.1 this.symm u hu
theorem takeU_ok {l : Lk} {u : Un} {n : Int} (h : unB l u = true) (hl : askU u = true \/ restU u = true) (hn : 1 <= n) (hn2 : (partU u).f + n <= (partU u).t) :
 unB l (takeU u n) = true /\ u.sent <= (takeU u n).sent /\ 0 < (takeU u n).sent /\ (u.again ≠ [] -> (takeU u n).sent = u.sent) /\ (u.again = [] -> (takeU u n).sent = u.sent + n) := by
 have hin := partU_in h hl
 obtain ⟨h1, h2, h3⟩ := unB_iff.1 h
 obtain ⟨hs, hd, ht, hr⟩ := h1
 unfold takeU
 unfold partU at hin hn2
 cases ha : u.again with
 | nil =>
  rw [ha] at hin hn2
  dsimp only at hin hn2 ⊢
  refine ⟨unB_iff.2 ⟨⟨hs, hd, by dsimp only; omega, hr⟩, rfl, fun r hr => (by simp at hr)⟩, by omega, by omega, fun h => absurd rfl h, fun _ => rfl⟩
 | cons r m =>
  rw [ha] at hin hn2 h2 h3
  dsimp only at hin hn2 ⊢
  simp only [normB, Bool.and_eq_true, decide_eq_true_eq] at h2
  have hr0 := h3 r (by simp)
  split
  ·refine ⟨unB_iff.2 ⟨⟨hs, hd, ht, hr⟩, normB_mono (by omega) h2.2, fun x hx => h3 x (by simp [hx])⟩, Int.le_refl _, by dsimp only; omega, fun _ => rfl, fun h => (by cases h)⟩
  ·refine ⟨unB_iff.2 ⟨⟨hs, hd, ht, hr⟩, ?_, fun x hx => ?_⟩, Int.le_refl _, by dsimp only; omega, fun _ => rfl, fun h => (by cases h)⟩
   ·dsimp only
    simp only [normB, Bool.and_eq_true, decide_eq_true_eq]
    exact ⟨by omega, h2.2⟩
   ·rcases List.mem_cons.1 hx with rfl | hx
    ·exact hr0
    ·exact h3 x (by simp [hx])
theorem lastSn_mem : ∀ (L : List Un) (d : Int), (∃ u ∈ L, 0 < u.sent) -> ∃ u ∈ L, u.sn = lastSn L d /\ 0 < u.sent
 | [], _, ⟨u, hu, _⟩ => by simp at hu
 | x :: L, d, ⟨u, hu, hs⟩ => by
  have e : lastSn (x :: L) d = lastSn L (if 0 < x.sent then x.sn else d) := rfl
  rw [e]
  by_cases h : ∃ u ∈ L, 0 < u.sent
  ·obtain ⟨v, hv, h1, h2⟩ := lastSn_mem L (if 0 < x.sent then x.sn else d) h
   exact ⟨v, by simp [hv], h1, h2⟩
  ·have hx : u = x := by
    rcases List.mem_cons.1 hu with h1 | h1
    ·exact h1
    ·exact absurd ⟨u, h1, hs⟩ h
   subst hx
   have none : ∀ (L : List Un) (d : Int), (∀ v ∈ L, ¬ 0 < v.sent) -> lastSn L d = d := by
    intro L
    induction L with
    | nil => intro d _; rfl
    | cons y L ih =>
     intro d hL
     have e : lastSn (y :: L) d = lastSn L (if 0 < y.sent then y.sn else d) := rfl
     rw [e, if_neg (hL y (by simp)), ih d fun v hv => hL v (by simp [hv])]
   rw [if_pos hs, none L _ fun v hv hp => h ⟨v, hv, hp⟩]
   exact ⟨u, by simp, rfl, hs⟩
end Go.Sx
namespace Go.Sx
open Go.Proofs.YtmbppohkadmjgaaGreat
theorem OkS.set {s t : Sd} (h : OkS s) {k : Nat} (hk : k < s.units.length) {u' : Un} (hsn : u'.sn = s.units[k].sn) (hub : unB s.lk u' = true) (hb : 0 < u'.sent -> ∀ j (hj : j < k), wholeU (s.units[j]'(by omega)))
 (ha : ∀ j (hj : j < s.units.length), k < j -> 0 < s.units[j].sent -> wholeU u') (hlk : t.lk = s.lk) (hf : t.first = s.first) (hn : t.next = s.next) (hu : t.units = s.units.set k u') (hp : 0 <= t.pieces /\ t.pieces <= s.lk.every - 1) (h1 : t.poll = -1 -> t.left = 0)
 (h2 : t.poll ≠ -1 -> (∃ u ∈ t.units, u.sn = t.poll /\ 0 < u.sent) /\ 1 <= t.left /\ t.left <= s.lk.poll) : OkS t := by
 have hpl : ∀ x, t.place x = s.place x := fun x => by unfold Sd.place; rw [hlk, hf]
 refine ⟨by rw [hlk]; exact h.lk, by rw [hlk, hf]; exact h.first, by rw [hlk, hn]; exact h.next, by rw [hpl, hlk, hn]; exact h.win, ?_, ?_, ?_, ?_, by rw [hlk]; exact hp, h1, by rw [hlk]; exact h2⟩
 ·intro hnil
  rw [hu] at hnil
  have := congrArg List.length hnil
  simp at this; rw [this] at hk; simp at hk
 ·intro v l hv
  rw [hf]
  have h0 : 0 < s.units.length := by omega
  have h0' : t.units[0]? = some v := by rw [hv]; rfl
  rw [hu] at h0'
  cases hs : s.units with
  | nil => rw [hs] at h0; simp at h0
  | cons x m =>
   have hx := h.head x m hs
   rcases Nat.eq_zero_or_pos k with rfl | hk0
   ·rw [List.getElem?_set_self h0] at h0'
    injection h0' with h0'
    rw [<- h0', hsn]
    simp only [hs, List.getElem_cons_zero]; exact hx
   ·rw [List.getElem?_set_ne (by omega), hs] at h0'
    injection h0' with h0'
    rw [<- h0']; exact hx
 ·intro u hm
  rw [hpl, hpl, hlk, hn]
  rw [hu] at hm
  rcases List.mem_or_eq_of_mem_set hm with hm | rfl
  ·exact h.all u hm
  ·exact ⟨hub, by rw [hsn]; exact (h.all _ (List.getElem_mem hk)).2⟩
 ·rw [hu, List.pairwise_iff_getElem]
  intro i j hi hj hij
  simp only [List.length_set] at hi hj
  have hr := List.pairwise_iff_getElem.1 h.pw i j hi hj hij
  unfold relU at hr ⊢
  simp only [hpl, List.getElem_set]
  by_cases e1 : k = i <;> by_cases e2 : k = j
  ·omega
  ·subst e1
   rw [if_pos rfl, if_neg e2, hsn]
   exact ⟨hr.1, fun h => ha j hj hij h⟩
  ·subst e2
   rw [if_neg e1, if_pos rfl, hsn]
   exact ⟨hr.1, fun h => hb h i hij⟩
  ·rw [if_neg e1, if_neg e2]; exact hr
theorem build_inv {s : Sd} {size E : Int} (h : OkS s) (he : (buildS s size E).2.2 = 0) : ∃ (k : Nat) (hk : k < s.units.length) (q : Pc), leftI s.units = k /\ q = (cutP s.lk.bits (pieceU s.units[k]) size).1 /\ (cutP s.lk.bits (pieceU s.units[k]) size).2.2 = 0 /\ buildS s size E = buildT s k s.units[k] q /\
 q.ok s.lk.bits /\ q.poll = 0 /\ 1 <= q.data.length /\ (partU s.units[k]).f + q.data.length <= (partU s.units[k]).t := by
 unfold buildS at he
 by_cases hE : E ≠ 0
 ·rw [if_pos hE] at he; exact absurd he hE
 rw [if_neg hE] at he
 by_cases hz : ¬ (0 <= size /\ size <= 4096)
 ·rw [if_pos hz] at he; exact absurd he (by decide)
 rw [if_neg hz] at he
 by_cases hl : leftI s.units < 0
 ·rw [if_pos hl] at he; exact absurd he (by decide)
 rw [if_neg hl] at he
 obtain ⟨k, hk, hlk⟩ := leftI_some (L := s.units) (by omega)
 have hkn : (leftI s.units).toNat = k := by omega
 simp only [hkn, List.getElem?_eq_getElem hk] at he
 by_cases hc : (cutP s.lk.bits (pieceU s.units[k]) size).2.2 ≠ 0
 ·rw [if_pos hc] at he; exact absurd he hc
 rw [if_neg hc] at he
 have hc := Decidable.not_not.1 hc
 obtain ⟨hq, hp⟩ := cut_ok hc
 have hlen := cut_len s.lk.bits (pieceU s.units[k]) size
 have hin := partU_in (h.all _ (List.getElem_mem hk)).1 (leftI_unit hk hlk)
 have hpl : (pieceU s.units[k]).data.length = (partU s.units[k]).t.toNat - (partU s.units[k]).f.toNat := by
  show ((s.units[k].data.take _).drop _).length = _
  rw [List.length_drop, List.length_take]; omega
 refine ⟨k, hk, _, hlk, rfl, hc, ?_, hq, by rw [hp]; rfl, hq.2.2.2.2.2.2.1, by omega⟩
 unfold buildS
 rw [if_neg hE, if_neg hz, if_neg hl]
 simp only [hkn, List.getElem?_eq_getElem hk]
 rw [if_neg (by rw [hc]; decide)]
theorem take_set {s : Sd} (h : OkS s) {k : Nat} (hk : k < s.units.length) (hl : leftI s.units = k) {n : Int} (hn : 1 <= n) (hn2 : (partU s.units[k]).f + n <= (partU s.units[k]).t) :
 (0 < (takeU s.units[k] n).sent -> ∀ j (hj : j < k), wholeU (s.units[j]'(by omega))) /\ (∀ j (hj : j < s.units.length), k < j -> 0 < s.units[j].sent -> wholeU (takeU s.units[k] n)) := by
 have hau := leftI_unit hk hl
 have htk := takeU_ok (h.all _ (List.getElem_mem hk)).1 hau hn hn2
 have hd := (takeU_data s.units[k] n).1
 by_cases hag : s.units[k].again = []
 ·have hs : (∀ u ∈ s.units, askU u = false) /\ restU s.units[k] = true /\ ∀ j (hj : j < k), restU (s.units[j]'(by omega)) = false := by
   rcases leftI_spec hk hl with h1 | h1
   ·have := h1.1; unfold askU at this; rw [hag] at this; simp at this
   ·exact h1
  refine ⟨fun _ j hj => ?_, fun j hj hkj h0 => ?_⟩
  ·have := hs.2.2 j hj
   unfold restU at this; simpa using this
  ·have := (List.pairwise_iff_getElem.1 h.pw k j hk hj hkj).2 h0
   have h3 := hs.2.1
   unfold restU at h3
   simp at h3
   exact absurd this h3
 ·have hse := htk.2.2.2.1 hag
  refine ⟨fun h0 j hj => ?_, fun j hj hkj h0 => ?_⟩
  ·rw [hse] at h0
   exact (List.pairwise_iff_getElem.1 h.pw j k (by omega) hk hj).2 h0
  ·have := (List.pairwise_iff_getElem.1 h.pw k j hk hj hkj).2 h0
   unfold wholeU at this ⊢
   rw [hse, hd]; exact this
theorem build_ok {s : Sd} {size E : Int} (h : OkS s) (he : (buildS s size E).2.2 = 0) : OkS (buildS s size E).1 /\ (buildS s size E).1.lk = s.lk /\ (buildS s size E).1.failed = s.failed := by
 obtain ⟨k, hk, q, hl, -, -, hb, -, -, hn, hn2⟩ := build_inv h he
 have hmu := List.getElem_mem hk
 have htk := takeU_ok (n := q.data.length) (h.all _ hmu).1 (leftI_unit hk hl) (by omega) hn2
 have htd := takeU_data s.units[k] q.data.length
 have hts := take_set h hk hl (n := q.data.length) (by omega) hn2
 have hmem : takeU s.units[k] q.data.length ∈ s.units.set k (takeU s.units[k] q.data.length) := List.mem_of_getElem? (List.getElem?_set_self hk)
 have hkeep : ∀ x : Int, (∃ u ∈ s.units, u.sn = x /\ 0 < u.sent) -> ∃ u ∈ s.units.set k (takeU s.units[k] q.data.length), u.sn = x /\ 0 < u.sent := fun x ⟨u, hu, h1, h2⟩ => by
  obtain ⟨j, hj, rfl⟩ := List.getElem_of_mem hu
  by_cases hjk : k = j
  ·subst hjk
   exact ⟨_, hmem, by rw [htd.2.1]; exact h1, htk.2.2.1⟩
  ·exact ⟨s.units[j], List.mem_of_getElem? (by rw [List.getElem?_set_ne hjk, List.getElem?_eq_getElem hj]), h1, h2⟩
 rw [hb]
 unfold buildT
 dsimp only
 have hpc := h.pieces
 have hev := h.lk.2.1
 split
 ·refine ⟨h.set hk (u' := takeU s.units[k] q.data.length) htd.2.1 htk.1 hts.1 hts.2 rfl rfl rfl rfl ⟨Int.le_refl _, by show (0 : Int) <= _; omega⟩ (fun hp => ?_) (fun _ => ?_), rfl, rfl⟩
  ·obtain ⟨u, hu, h1, h2⟩ := lastSn_mem (s.units.set k (takeU s.units[k] q.data.length)) s.poll ⟨_, hmem, htk.2.2.1⟩
   have hp : lastSn (s.units.set k (takeU s.units[k] q.data.length)) s.poll = -1 := hp
   rw [hp] at h1
   have : snOk s.lk.bits u.sn := by
    rcases List.mem_or_eq_of_mem_set hu with hu | rfl
    ·exact (unB_iff.1 (h.all _ hu).1).1.1
    ·rw [htd.2.1]; exact (unB_iff.1 (h.all _ hmu).1).1.1
   unfold snOk at this; omega
  ·have := h.lk.2.2.1
   exact ⟨lastSn_mem _ _ ⟨_, hmem, htk.2.2.1⟩, by show 1 <= s.lk.poll; omega, Int.le_refl _⟩
 ·rename_i hc
  refine ⟨h.set hk (u' := takeU s.units[k] q.data.length) htd.2.1 htk.1 hts.1 hts.2 rfl rfl rfl rfl ⟨by dsimp only; omega, by dsimp only at hc ⊢; omega⟩ h.poll (fun hp => ?_), rfl, rfl⟩
  obtain ⟨h1, h2⟩ := h.asked hp
  exact ⟨hkeep _ h1, h2⟩
theorem tick_okD {s : Sd} {E : Int} (h : OkS s) (he : (tickS s E).2 = 0) : OkS (tickS s E).1 /\ (tickS s E).1.lk = s.lk := by
 unfold tickS at he ⊢
 by_cases hE : E ≠ 0
 ·rw [if_pos hE] at he; exact absurd he hE
 rw [if_neg hE]
 by_cases h0 : s.left = 0
 ·rw [if_pos h0]; exact ⟨h, rfl⟩
 rw [if_neg h0]
 have hev := h.lk.2.1
 have hasked := h.asked fun hp => h0 (h.poll hp)
 by_cases h1 : s.left - 1 > 0
 ·rw [if_pos h1]
  exact ⟨h.same rfl rfl rfl rfl h.pieces (fun hp => absurd (h.poll hp) h0) (fun _ => ⟨hasked.1, by dsimp only; omega, by dsimp only; omega⟩), rfl⟩
 rw [if_neg h1]
 have hz : s.left - 1 = 0 := by omega
 unfold tickT
 split
 ·exact ⟨h.same rfl rfl rfl rfl ⟨by dsimp only; omega, by dsimp only; omega⟩ (fun _ => hz) (fun hp => absurd rfl hp), rfl⟩
 ·rename_i hl
  have hl := leftI_neg.1 (show leftI s.units < 0 by omega)
  obtain ⟨t, ht⟩ : ∃ t : Sd, t = { s with left := s.left - 1, poll := -1 } := ⟨_, rfl⟩
  have hot : OkS t := h.same (by rw [ht]) (by rw [ht]) (by rw [ht]) (by rw [ht]) (by rw [ht]; exact h.pieces) (fun _ => by rw [ht]; exact hz) (fun hp => absurd (by rw [ht]) hp)
  have htu : t.units = s.units := by rw [ht]
  have htl : t.lk = s.lk := by rw [ht]
  rw [<- ht]
  unfold lastS
  split
  ·exact ⟨hot, htl⟩
  ·rename_i u hu
   obtain ⟨hk, hu⟩ := List.getElem?_eq_some_iff.1 hu
   have hmu : u ∈ t.units := by rw [<- hu]; exact List.getElem_mem _
   have hub := (hot.all u hmu).1
   obtain ⟨⟨n1, n2, n3, n4⟩, -, -⟩ := unB_iff.1 hub
   have hw : wholeU u := by
    have := (hl u (by rw [<- htu]; exact hmu)).2
    unfold restU at this; simpa using this
   have hw' := hw
   unfold wholeU at hw'
   have ub : ∀ m : Int, 0 <= m -> m <= t.lk.tries -> unB t.lk { tryU u with tries := m } = true := fun m h1 h2 =>
    unB_iff.2 ⟨⟨n1, n2, n3, h1, h2⟩, by simp only [tryU, normB, Bool.and_eq_true, decide_eq_true_eq]; exact ⟨⟨by omega, by omega⟩, trivial⟩, fun r hr => by simp [tryU] at hr; subst hr; exact ⟨rfl, Int.le_refl _⟩⟩
   have bef : ∀ v : Un, v.sent = u.sent -> (0 < v.sent -> ∀ j (hj : j < t.units.length - 1), wholeU (t.units[j]'(by omega))) := fun v hv h0 j hj => by
    refine (List.pairwise_iff_getElem.1 hot.pw j (t.units.length - 1) (by omega) hk hj).2 ?_
    rw [hu, <- hv]; exact h0
   split
   ·refine ⟨hot.set hk (u' := tryU u) (by rw [hu]; rfl) (ub u.tries n4.1 n4.2) (bef _ rfl) (fun j hj hkj _ => by omega) rfl rfl rfl rfl hot.pieces hot.poll (fun hp => absurd (by rw [ht]) hp), htl⟩
   ·rename_i htr
    refine ⟨hot.set hk (u' := { tryU u with tries := u.tries + 1 }) (by rw [hu]; rfl) (ub _ (by omega) (by omega)) (bef _ rfl) (fun j hj hkj _ => by omega) rfl rfl rfl rfl hot.pieces hot.poll (fun hp => absurd (by rw [ht]) hp), htl⟩
def missU (u : Un) (x : Rg) : Option Rg := if x.sn ≠ u.sn then none else if (clipR u x).f < (clipR u x).t then some (clipR u x) else none
theorem missS_map (u : Un) (M : List Rg) : missS u M = (M.filterMap (missU u), M.any fun x => decide (x.sn = u.sn)) := by
 have key : ∀ (M : List Rg) (p : List Rg × Bool), M.foldl (missStep u) p = (p.1 ++ M.filterMap (missU u), p.2 || M.any fun x => decide (x.sn = u.sn)) := by
  intro M
  induction M with
  | nil => intro p; simp
  | cons x M ih =>
   intro p
   rw [List.foldl_cons, ih]
   unfold missStep
   by_cases h : x.sn ≠ u.sn
   ·have : missU u x = none := by unfold missU; rw [if_pos h]
    rw [if_pos h, List.filterMap_cons_none this, List.any_cons, decide_eq_false h, Bool.false_or]
   ·have hx : x.sn = u.sn := Decidable.not_not.1 h
    rw [if_neg h, List.any_cons, decide_eq_true hx]
    by_cases h2 : (clipR u x).f < (clipR u x).t
    ·have : missU u x = some (clipR u x) := by unfold missU; rw [if_neg h, if_pos h2]
     rw [List.filterMap_cons_some this, if_pos h2]
     simp
    ·have : missU u x = none := by unfold missU; rw [if_neg h, if_neg h2]
     rw [List.filterMap_cons_none this, if_neg h2]
     simp
 rw [missS, key]; simp
theorem way_injD {b u x y : Int} (hb : bitsOk b) (hx : 0 <= x /\ x < 2 ^ b.toNat) (hy : 0 <= y /\ y < 2 ^ b.toNat) (h : way b x u = way b y u) : x = y := by
 unfold way at h
 rcases pow_bits hb with e | e | e | e | e <;> rw [e] at h hx hy <;> omega
theorem chain_sn {b up : Int} (hb : bitsOk b) {n : Int} : ∀ {L : List Rg} {q : Rg}, chainB b up (some q) L = true -> q.sn = n -> ownR b up q -> ∀ r ∈ L, r.sn = n -> ¬ whole q /\ ¬ whole r /\ q.t < r.f
 | [], q, _, _, _, r, hr, _ => by simp at hr
 | r0 :: l, q, h, hq, ho, r, hr, hn => by
  simp only [chainB, Bool.and_eq_true, decide_eq_true_eq] at h
  obtain ⟨⟨h1, h2⟩, h3⟩ := h
  have h2 : linkR b up q r0 := h2
  have mono : ∀ {L : List Rg} {q : Rg}, chainB b up (some q) L = true -> ∀ r ∈ L, ownR b up r /\ way b r.sn up <= way b q.sn up := by
   intro L
   induction L with
   | nil => intro q _ r hr; simp at hr
   | cons x L ih =>
    intro q h r hr
    simp only [chainB, Bool.and_eq_true, decide_eq_true_eq] at h
    obtain ⟨⟨h1, h2⟩, h3⟩ := h
    have h2 : linkR b up q x := h2
    rcases List.mem_cons.1 hr with rfl | hr
    ·exact ⟨h1, h2.1⟩
    ·have := ih h3 r hr
     exact ⟨this.1, by have := h2.1; omega⟩
  rcases List.mem_cons.1 hr with rfl | hr
  ·have := h2.2 (by rw [hn, hq])
   simp only [not_or] at this
   exact ⟨this.1, this.2.1, by omega⟩
  ·have hm := mono h3 r hr
   have h4 := h2.1
   have e : way b r0.sn up = way b q.sn up := by
    rw [hn, <- hq] at hm
    omega
   have e2 : r0.sn = q.sn := way_injD hb h1.1 ho.1 e
   have h5 := h2.2 e
   simp only [not_or] at h5
   have h6 := chain_sn hb h3 (by rw [e2, hq]) h1 r hr hn
   have h7 := h1.2.2
   rcases h7 with h7 | h7
   ·exact absurd h7 h5.2.1
   ·unfold isPart at h7
    exact ⟨h5.1, h6.2.1, by omega⟩
theorem chain_pw {b up : Int} (hb : bitsOk b) : ∀ {L : List Rg} {p : Option Rg}, chainB b up p L = true -> (∀ r ∈ L, ownR b up r) /\ L.Pairwise fun q r => q.sn = r.sn -> ¬ whole q /\ ¬ whole r /\ q.t < r.f
 | [], _, _ => ⟨fun r hr => by simp at hr, .nil⟩
 | x :: L, p, h => by
  simp only [chainB, Bool.and_eq_true, decide_eq_true_eq] at h
  obtain ⟨⟨h1, h2⟩, h3⟩ := h
  have ih := chain_pw hb h3
  refine ⟨fun r hr => ?_, List.pairwise_cons.2 ⟨fun r hr he => chain_sn hb h3 he h1 r hr rfl, ih.2⟩⟩
  rcases List.mem_cons.1 hr with rfl | hr
  ·exact h1
  ·exact ih.1 r hr
theorem norm_pw : ∀ {L : List Rg} {p : Int}, L.Pairwise (fun q r => q.t < r.f) -> (∀ x ∈ L, p < x.f /\ x.f < x.t) -> normB p L = true
 | [], _, _, _ => rfl
 | x :: L, p, h, h2 => by
  rw [List.pairwise_cons] at h
  simp only [normB, Bool.and_eq_true, decide_eq_true_eq]
  exact ⟨h2 x (by simp), norm_pw h.2 fun y hy => ⟨h.1 y hy, (h2 y (by simp [hy])).2⟩⟩
theorem missU_some {u : Un} {x y : Rg} (h : missU u x = some y) : x.sn = u.sn /\ y = clipR u x /\ y.f < y.t := by
 unfold missU at h
 split at h
 ·cases h
 ·rename_i hn
  split at h
  ·rename_i hlt
   injection h with h
   exact ⟨Decidable.not_not.1 hn, h.symm, by rw [<- h]; exact hlt⟩
  ·cases h
theorem miss_ok {b : Int} {r : Stt} {u : Un} (hr : okS b r) : normB (-1) (missS u r.miss).1 = true /\ ∀ x ∈ (missS u r.miss).1, x.sn = u.sn /\ x.t <= u.sent /\ 0 <= x.f := by
 obtain ⟨hb, _, _, hc⟩ := hr
 obtain ⟨ho, hp⟩ := chain_pw hb hc
 rw [missS_map]
 have each : ∀ x ∈ r.miss, ∀ y, missU u x = some y -> x.sn = u.sn /\ y = clipR u x /\ y.f < y.t /\ 0 <= y.f /\ y.sn = u.sn /\ y.t <= u.sent := fun x hx y hy => by
  unfold missU at hy
  split at hy
  ·cases hy
  ·rename_i hn
   split at hy
   ·rename_i hlt
    injection hy with hy
    have hw := (ho x hx).2.2
    have hn := Decidable.not_not.1 hn
    refine ⟨hn, hy.symm, by rw [<- hy]; exact hlt, ?_, by rw [<- hy]; exact hn, ?_⟩
    ·rw [<- hy]
     show 0 <= x.f
     rcases hw with hw | hw
     ·rw [hw.1]; decide
     ·exact hw.1
    ·rw [<- hy]
     show (if u.sent < (if whole x then u.sent else x.t) then u.sent else if whole x then u.sent else x.t) <= u.sent
     split <;> omega
   ·cases hy
 refine ⟨norm_pw ?_ fun y hy => ?_, fun y hy => ?_⟩
 ·refine List.Pairwise.filterMap (R := fun q r => (q.sn = r.sn -> ¬ whole q /\ ¬ whole r /\ q.t < r.f)) _ ?_ hp
  intro x x' hxx y hy y' hy'
  obtain ⟨h1, h2, h3⟩ := missU_some hy
  obtain ⟨h4, h5, h6⟩ := missU_some hy'
  obtain ⟨h7, h8, h9⟩ := hxx (by rw [h1, h4])
  rw [h2, h5]
  show (if u.sent < (if whole x then u.sent else x.t) then u.sent else if whole x then u.sent else x.t) < x'.f
  rw [if_neg h7]
  split <;> omega
 ·obtain ⟨x, hx, hy⟩ := List.mem_filterMap.1 hy
  have := each x hx y hy
  exact ⟨by omega, this.2.2.1⟩
 ·obtain ⟨x, hx, hy⟩ := List.mem_filterMap.1 hy
  have := each x hx y hy
  exact ⟨this.2.2.2.2.1, this.2.2.2.2.2, this.2.2.2.1⟩
def repU (s : Sd) (upto : Int) (M : List Rg) (u : Un) : Option Un :=
 if upto <= s.place u.sn then some u
 else if (missS u M).2 = true then some (if u.again.length = 0 /\ 0 < (missS u M).1.length /\ u.tries ≠ s.lk.tries then { u with again := (missS u M).1, tries := u.tries + 1 } else { u with again := (missS u M).1 })
 else if wholeU u then none else some u
theorem rep_map (s : Sd) (upto : Int) (M : List Rg) : ∀ (L : List Un) (p : List Un × Bool), (L.foldl (repStep s upto M) p).1 = p.1 ++ L.filterMap (repU s upto M)
 | [], p => by simp
 | u :: L, p => by
  rw [List.foldl_cons, rep_map s upto M L]
  unfold repStep
  by_cases h1 : upto <= s.place u.sn
  ·rw [if_pos h1, List.filterMap_cons_some (b := u) (by rw [repU, if_pos h1])]; simp
  ·rw [if_neg h1]
   by_cases h2 : (missS u M).2 = true
   ·rw [if_pos h2]
    by_cases h3 : u.again.length = 0 /\ 0 < (missS u M).1.length
    ·rw [if_pos h3]
     by_cases h4 : u.tries = s.lk.tries
     ·rw [if_pos h4, List.filterMap_cons_some (b := { u with again := (missS u M).1 }) (by rw [repU, if_neg h1, if_pos h2, if_neg (fun h => h.2.2 h4)])]; simp
     ·rw [if_neg h4, List.filterMap_cons_some (b := { u with again := (missS u M).1, tries := u.tries + 1 }) (by rw [repU, if_neg h1, if_pos h2, if_pos ⟨h3.1, h3.2, h4⟩])]; simp
    ·rw [if_neg h3, List.filterMap_cons_some (b := { u with again := (missS u M).1 }) (by rw [repU, if_neg h1, if_pos h2, if_neg (fun h => h3 ⟨h.1, h.2.1⟩)])]; simp
   ·rw [if_neg h2]
    by_cases h3 : wholeU u
    ·rw [if_pos h3, List.filterMap_cons_none (by rw [repU, if_neg h1, if_neg h2, if_pos h3])]
    ·rw [if_neg h3, List.filterMap_cons_some (b := u) (by rw [repU, if_neg h1, if_neg h2, if_neg h3])]; simp
theorem repU_some {s : Sd} {upto : Int} {M : List Rg} {u v : Un} (h : repU s upto M u = some v) : v.sn = u.sn /\ v.data = u.data /\ v.sent = u.sent /\ ((v.again = u.again /\ v.tries = u.tries) \/ (v.again = (missS u M).1 /\ (v.tries = u.tries \/ (v.tries = u.tries + 1 /\ u.tries ≠ s.lk.tries)))) := by
 unfold repU at h
 split at h
 ·injection h with h; subst h; exact ⟨rfl, rfl, rfl, .inl ⟨rfl, rfl⟩⟩
 ·split at h
  ·injection h with h
   split at h
   ·rename_i h3
    subst h; exact ⟨rfl, rfl, rfl, .inr ⟨rfl, .inr ⟨rfl, h3.2.2⟩⟩⟩
   ·subst h; exact ⟨rfl, rfl, rfl, .inr ⟨rfl, .inl rfl⟩⟩
  ·split at h
   ·cases h
   ·injection h with h; subst h; exact ⟨rfl, rfl, rfl, .inl ⟨rfl, rfl⟩⟩
theorem rep_okD {s : Sd} {r : Stt} (h : OkS s) (he : (repS s r).2 = 0) : OkS (repS s r).1 /\ (repS s r).1.lk = s.lk /\ (repS s r).1.units = s.units.filterMap (repU s (s.place r.upto) r.miss) /\ okS s.lk.bits r /\ s.failed = false /\ s.place r.upto <= s.place s.next := by
 unfold repS at he ⊢
 by_cases h1 : s.okB = false \/ ¬ okS s.lk.bits r
 ·rw [if_pos h1] at he; exact absurd he (by decide)
 rw [if_neg h1] at he ⊢
 by_cases h2 : s.failed = true
 ·rw [if_pos h2] at he; exact absurd he (by decide)
 rw [if_neg h2] at he ⊢
 by_cases h3 : s.place r.upto > s.place s.next
 ·rw [if_pos h3] at he; exact absurd he (by decide)
 rw [if_neg h3]
 have hr : okS s.lk.bits r := Decidable.not_not.1 fun h => h1 (.inr h)
 have hu : (repT s r).units = s.units.filterMap (repU s (s.place r.upto) r.miss) := by
  unfold repT
  dsimp only
  rw [rep_map]; simp
 refine ⟨?_, rfl, hu, hr, by simpa using h2, by omega⟩
 obtain ⟨t, ht⟩ : ∃ t, t = repT s r := ⟨_, rfl⟩
 rw [<- ht] at hu ⊢
 have hb := h.lk.1
 have hlk : t.lk = s.lk := by rw [ht]; rfl
 have hnx : t.next = s.next := by rw [ht]; rfl
 have hfi : t.first = match t.units with | u :: _ => u.sn | [] => s.next := by rw [ht]; rfl
 have hfrom : ∀ v ∈ t.units, ∃ u ∈ s.units, repU s (s.place r.upto) r.miss u = some v := fun v hv => by
  rw [hu] at hv; exact List.mem_filterMap.1 hv
 have hpw : t.units.Pairwise (relU s) := by
  rw [hu]
  refine List.Pairwise.filterMap (R := relU s) _ ?_ h.pw
  intro x x' hxx y hy y' hy'
  obtain ⟨a1, a2, a3, _⟩ := repU_some hy
  obtain ⟨b1, b2, b3, _⟩ := repU_some hy'
  unfold relU wholeU at hxx ⊢
  rw [a1, a2, a3, b1, b3]; exact hxx
 have hall : ∀ v ∈ t.units, unB s.lk v = true /\ s.place v.sn < s.place s.next := fun v hv => by
  obtain ⟨u, hm, hg⟩ := hfrom v hv
  obtain ⟨a1, a2, a3, a4⟩ := repU_some hg
  obtain ⟨q1, q2⟩ := h.all u hm
  obtain ⟨⟨n1, n2, n3, n4⟩, m1, m2⟩ := unB_iff.1 q1
  rw [a1]
  refine ⟨unB_iff.2 ⟨⟨by rw [a1]; exact n1, by rw [a2]; exact n2, by rw [a2, a3]; exact n3, ?_⟩, ?_⟩, q2⟩
  ·rcases a4 with ⟨_, a4⟩ | ⟨_, a4 | a4⟩ <;> omega
  ·rcases a4 with ⟨a4, _⟩ | ⟨a4, _⟩
   ·rw [a4, a1, a3]; exact ⟨m1, m2⟩
   ·rw [a4, a1, a3]
    have := miss_ok (u := u) hr
    exact ⟨this.1, fun x hx => ⟨(this.2 x hx).1, (this.2 x hx).2.1⟩⟩

 have hst : s.place t.first <= s.place s.next /\ snOk s.lk.bits t.first /\ ∀ v ∈ t.units, s.place t.first <= s.place v.sn := by
  rw [hfi]
  cases hl : t.units with
  | nil => exact ⟨Int.le_refl _, h.next, fun v hv => by simp at hv⟩
  | cons x l =>
   rw [hl] at hall hpw
   have hx := hall x (by simp)
   refine ⟨by have := hx.2; dsimp only; omega, (unB_iff.1 hx.1).1.1, fun v hv => ?_⟩
   rcases List.mem_cons.1 hv with rfl | hv
   ·exact Int.le_refl _
   ·have := ((List.pairwise_cons.1 hpw).1 v hv).1; dsimp only; omega
 have hpl : ∀ x, s.place t.first <= s.place x -> t.place x = s.place x - s.place t.first := fun x hx => by
  unfold Sd.place at hx ⊢
  rw [hlk]
  exact way_shift hb hx
 have hnn : 0 <= s.place t.first := (way_range _ _ _).1
 refine ⟨by rw [hlk]; exact h.lk, by rw [hlk]; exact hst.2.1, by rw [hlk, hnx]; exact h.next, ?_, ?_, ?_, ?_, ?_, by rw [ht]; exact h.pieces, ?_, ?_⟩
 ·rw [hnx, hpl _ hst.1, hlk]; have := h.win; omega
 ·intro hn; rw [hnx, hfi, hn]
 ·intro u l hl; rw [hfi, hl]
 ·intro v hv
  have h5 := hst.2.2 v hv
  rw [hnx, hpl _ h5, hpl _ hst.1, hlk]
  have := hall v hv
  exact ⟨this.1, by omega⟩
 ·refine hpw.imp_of_mem fun {x y} hx hy hxy => ?_
  unfold relU at hxy ⊢
  rw [hpl _ (hst.2.2 x hx), hpl _ (hst.2.2 y hy)]
  exact ⟨by omega, hxy.2⟩
 ·have e1 : t.poll = if s.poll ≠ -1 /\ s.place s.poll < s.place r.upto then -1 else s.poll := by rw [ht]; rfl
  have e2 : t.left = if s.poll ≠ -1 /\ s.place s.poll < s.place r.upto then 0 else s.left := by rw [ht]; rfl
  rw [e1, e2]
  split
  ·intro _; rfl
  ·exact h.poll
 ·have e1 : t.poll = if s.poll ≠ -1 /\ s.place s.poll < s.place r.upto then -1 else s.poll := by rw [ht]; rfl
  have e2 : t.left = if s.poll ≠ -1 /\ s.place s.poll < s.place r.upto then 0 else s.left := by rw [ht]; rfl
  rw [e1, e2, hlk]
  split
  ·intro hp; exact absurd rfl hp
  ·rename_i hc
   intro hp
   obtain ⟨⟨u, hm, g1, g2⟩, g3⟩ := h.asked hp
   refine ⟨⟨u, ?_, g1, g2⟩, g3⟩
   rw [hu]
   refine List.mem_filterMap.2 ⟨u, hm, ?_⟩
   unfold repU
   rw [if_pos]
   rw [g1]
   have : ¬ s.place s.poll < s.place r.upto := fun h => hc ⟨hp, h⟩
   omega
theorem new_okD {l : Lk} (hl : lkOk l) {x : Int} (hx : snOk l.bits x) : OkS ⟨l, x, x, [], 0, -1, 0, false⟩ := by
 have hh := half_lt hl.1
 refine ⟨hl, hx, hx, ?_, fun _ => rfl, fun u m h => (by cases h), fun u hu => (by simp at hu), List.Pairwise.nil, ⟨Int.le_refl _, ?_⟩, fun _ => rfl, fun h => absurd rfl h⟩
 ·show way l.bits x x <= _
  rw [way_self]; dsimp only; omega
 ·have := hl.2.1; dsimp only; omega
end Go.Sx
namespace Go.Sx
open Go.Proofs.YtmbppohkadmjgaaGreat
theorem cut_at {b : Int} {p : Pc} {size : Int} (h : (cutP b p size).2.2 = 0) : (cutP b p size).1.sn = p.sn /\ (cutP b p size).1.off = p.off /\ (cutP b p size).1.data = p.data.take (cutP b p size).1.data.length := by
 unfold cutP at h ⊢
 split at h
 ·exact absurd h (by decide)
 ·rename_i hp
  rw [if_neg hp]
  split at h
  ·exact absurd h (by decide)
  ·rename_i hs
   rw [if_neg hs]
   split
   ·exact ⟨rfl, rfl, by simp⟩
   ·exact ⟨rfl, rfl, by dsimp only; rw [List.length_take, List.take_eq_take_min]⟩
theorem build_piece {s : Sd} {size E : Int} (h : OkS s) (he : (buildS s size E).2.2 = 0) : ∃ (k : Nat) (hk : k < s.units.length) (q : Pc), leftI s.units = k /\ q.ok s.lk.bits /\ (buildS s size E).2.1 = q.bytes /\ q.sn = s.units[k].sn /\ q.off = (partU s.units[k]).f /\
 1 <= q.data.length /\ (partU s.units[k]).f + q.data.length <= (partU s.units[k]).t /\ q.data = (s.units[k].data.drop (partU s.units[k]).f.toNat).take q.data.length /\ (buildS s size E).1.units = s.units.set k (takeU s.units[k] q.data.length) /\
 (q.poll = 1 ↔ s.pieces + 1 = s.lk.every \/ leftI (buildS s size E).1.units < 0) /\ (leftI (buildS s size E).1.units < 0 -> (buildS s size E).1.left = s.lk.poll) := by
 obtain ⟨k, hk, q, hl, hq, hc, hb, hqo, hqp, hn, hn2⟩ := build_inv h he
 have ha := cut_at hc
 rw [<- hq] at ha
 have hin := partU_in (h.all _ (List.getElem_mem hk)).1 (leftI_unit hk hl)
 have hdata : q.data = (s.units[k].data.drop (partU s.units[k]).f.toNat).take q.data.length := by
  have h1 := ha.2.2
  have h2 : (pieceU s.units[k]).data = (s.units[k].data.drop (partU s.units[k]).f.toNat).take ((partU s.units[k]).t.toNat - (partU s.units[k]).f.toNat) := by
   show (s.units[k].data.take _).drop _ = _
   rw [List.drop_take]
  rw [h2, List.take_take, Nat.min_eq_left (by omega)] at h1
  exact h1
 have hok2 : Pc.ok s.lk.bits { q with poll := 1 } := ⟨hqo.1, hqo.2.1, hqo.2.2.1, ⟨by show (0 : Int) <= 1; decide, by show (1 : Int) <= 1; decide⟩, hqo.2.2.2.2⟩
 rw [hb]
 unfold buildT
 dsimp only
 split
 ·rename_i hcnd
  refine ⟨k, hk, { q with poll := 1 }, hl, hok2, by rw [encP, if_pos hok2], ha.1, ha.2.1, hn, hn2, hdata, rfl, iff_of_true rfl ?_, fun _ => rfl⟩
  exact hcnd
 ·rename_i hcnd
  refine ⟨k, hk, q, hl, hqo, by rw [encP, if_pos hqo], ha.1, ha.2.1, hn, hn2, hdata, rfl, iff_of_false (by omega) hcnd, fun h => absurd (.inr h) hcnd⟩
end Go.Sx
namespace Go.Sx
open Go.Proofs.YtmbppohkadmjgaaGreat
def restB (L : List Un) : List Int := L.flatMap fun u => u.data.drop u.sent.toNat
def noAg (L : List Un) : Prop := ∀ u ∈ L, u.again = []
theorem restB_whole : ∀ {L : List Un}, (∀ u ∈ L, restU u = false) -> restB L = []
 | [], _ => rfl
 | u :: L, h => by
  have hu := h u (by simp)
  have hu : wholeU u := by unfold restU at hu; simpa using hu
  unfold wholeU at hu
  show u.data.drop u.sent.toNat ++ restB L = []
  rw [restB_whole fun v hv => h v (by simp [hv]), hu]
  simp
theorem restB_app (A B : List Un) : restB (A ++ B) = restB A ++ restB B := by simp [restB]
theorem restB_nil {s : Sd} (h : OkS s) (hn : noAg s.units) : restB s.units = [] ↔ leftI s.units < 0 := by
 rw [leftI_neg]
 constructor
 ·intro hr u hu
  refine ⟨by unfold askU; rw [hn u hu]; simp, ?_⟩
  have hz := (unB_iff.1 (h.all u hu).1).1
  have h1 : u.data.drop u.sent.toNat = [] := by
   have := List.flatMap_eq_nil_iff.1 hr u hu
   exact this
  have h2 := congrArg List.length h1
  simp at h2
  have h3 := hz.2.2.1
  have h4 : wholeU u := by unfold wholeU; omega
  unfold restU
  rw [decide_eq_true h4]; rfl
 ·intro hr
  exact restB_whole fun u hu => (hr u hu).2
theorem restB_step {s : Sd} {size : Int} (h : OkS s) (hn : noAg s.units) (he : (buildS s size 0).2.2 = 0) : ∃ q : Pc, q.ok s.lk.bits /\ (buildS s size 0).2.1 = q.bytes /\ 1 <= q.data.length /\ restB s.units = q.data ++ restB (buildS s size 0).1.units /\ noAg (buildS s size 0).1.units /\
 (q.poll = 1 ↔ s.pieces + 1 = s.lk.every \/ leftI (buildS s size 0).1.units < 0) /\ (leftI (buildS s size 0).1.units < 0 -> (buildS s size 0).1.left = s.lk.poll) := by
 obtain ⟨k, hk, q, hl, hqo, hqb, hsn, hof, h1, h2, hd, hu, hp, hle⟩ := build_piece h he
 have hag := hn _ (List.getElem_mem hk)
 have hpu : partU s.units[k] = ⟨s.units[k].sn, s.units[k].sent, s.units[k].data.length⟩ := by unfold partU; rw [hag]
 rw [hpu] at hof h2 hd
 dsimp only at hof h2 hd
 have tk : ∀ (u : Un) (n : Int), u.again = [] -> takeU u n = { u with sent := u.sent + n } := fun u n h => by unfold takeU; rw [h]
 have htk : takeU s.units[k] q.data.length = { s.units[k] with sent := s.units[k].sent + q.data.length } := tk _ _ hag
 have hz := (unB_iff.1 (h.all _ (List.getElem_mem hk)).1).1.2.2.1
 have hsp : s.units = s.units.take k ++ s.units[k] :: s.units.drop (k + 1) := by rw [<- List.drop_eq_getElem_cons hk, List.take_append_drop]
 have hset : s.units.set k (takeU s.units[k] q.data.length) = s.units.take k ++ takeU s.units[k] q.data.length :: s.units.drop (k + 1) := by
  rw [List.set_eq_take_append_cons_drop, if_pos hk]
 have hpre : restB (s.units.take k) = [] := by
  refine restB_whole fun u hu => ?_
  obtain ⟨j, hj, rfl⟩ := List.getElem_of_mem hu
  have hjk : j < k := by rw [List.length_take] at hj; omega
  rw [List.getElem_take]
  rcases leftI_spec hk hl with h3 | h3
  ·have := h3.1; unfold askU at this; rw [hag] at this; simp at this
  ·exact h3.2.2 j hjk
 refine ⟨q, hqo, hqb, h1, ?_, ?_, hp, hle⟩
 ·rw [hu, hset]
  have e1 : restB s.units = restB (s.units.take k ++ s.units[k] :: s.units.drop (k + 1)) := by rw [<- hsp]
  rw [e1, restB_app, restB_app, hpre]
  show s.units[k].data.drop s.units[k].sent.toNat ++ restB (s.units.drop (k + 1)) = q.data ++ ((takeU s.units[k] q.data.length).data.drop (takeU s.units[k] q.data.length).sent.toNat ++ restB (s.units.drop (k + 1)))
  rw [htk]
  dsimp only
  rw [<- List.append_assoc]
  congr 1
  have e2 : (s.units[k].sent + q.data.length).toNat = s.units[k].sent.toNat + q.data.length := by omega
  rw [e2, <- List.drop_drop]
  conv => lhs; rw [<- List.take_append_drop q.data.length (s.units[k].data.drop s.units[k].sent.toNat)]
  rw [<- hd]
 ·rw [hu]
  intro u hm
  rcases List.mem_or_eq_of_mem_set hm with hm | rfl
  ·exact hn u hm
  ·rw [htk]; exact hag
theorem sub_go {s : Sd} {d : List Int} (h : OkS s) (hd : 1 <= d.length /\ d.length <= 2054) (hp : s.place s.next < 2 ^ (s.lk.bits - 1).toNat) :
 (subS s d 0).2 = 0 /\ (subS s d 0).1.units = s.units ++ [⟨s.next, d, 0, 0, []⟩] /\ (subS s d 0).1.place (subS s d 0).1.next = s.place s.next + 1 := by
 have hh := half_lt h.lk.1
 unfold subS
 rw [if_neg (by omega), if_neg (by omega), if_neg (by omega)]
 exact ⟨rfl, rfl, way_succ h.lk.1 (show s.place s.next + 1 < 2 ^ s.lk.bits.toNat by omega)⟩
end Go.Sx
