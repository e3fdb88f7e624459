import Derived.Test.YtmhggobilcmdmaaM20a
import Derived.Test.YtmhggobilcmdmaaM18
namespace Go.Sx
def repF (s : Sd) (r : Stt) (k : Nat) : List Un × Bool := (s.units.take k).foldl (repStep s (s.place r.upto) r.miss) ([], false)
theorem repF_step {s : Sd} {r : Stt} {k : Nat} (h : k < s.units.length) : repF s r (k + 1) = repStep s (s.place r.upto) r.miss (repF s r k) s.units[k] := by
  rw [repF, List.take_succ_eq_append_getElem h, List.foldl_append]; rfl
theorem repStep_len (s : Sd) (t : Int) (M : List Rg) (p : List Un × Bool) (u : Un) : (repStep s t M p u).1.length ≤ p.1.length + 1 := by
  unfold repStep
  split
  · simp
  · split
    · split
      · split <;> simp
      · simp
    · split
      · omega
      · simp
theorem repF_len {s : Sd} {r : Stt} : ∀ {k : Nat}, k ≤ s.units.length → (repF s r k).1.length ≤ k
  | 0, _ => by simp [repF]
  | k + 1, h => by
    rw [repF_step (by omega)]
    have := repStep_len s (s.place r.upto) r.miss (repF s r k) (s.units[k]'(by omega))
    have := repF_len (s := s) (r := r) (k := k) (by omega)
    omega
end Go.Sx
namespace Go.Proofs.Ytmhggobilcmdmaa
open Go.Sx Go.RowKit
set_option maxRecDepth 100000

/-- the units of the new row lean on the bytes of the old ones -/
def FromL (L O : List UP) : Prop := ∀ y ∈ O, ∃ x ∈ L, (y.a = x.a ∧ y.c = x.c) ∧ y.u.data = x.u.data
theorem fromL_dat {L O : List UP} {w : World} (h : FromL L O) (hd : DatR L w) : DatR O w := fun y hy => by
  obtain ⟨x, hx, h1, h2⟩ := h y hy
  rw [h1.1, h1.2, h2]; exact hd x hx
theorem fromL_snoc {L O : List UP} {x v : UP} (h : FromL L O) (hx : x ∈ L) (h1 : v.a = x.a ∧ v.c = x.c) (h2 : v.u.data = x.u.data) : FromL L (O ++ [v]) := fun y hy => by
  rcases List.mem_append.1 hy with hy | hy
  · exact h y hy
  · simp at hy; subst hy; exact ⟨x, hx, h1, h2⟩

theorem sender_Report_ct {s : Sd} {r : Stt} {a ma : Option Addr} {c mc : Nat} {w : World} (hu : UnR w a s.units) (hl : SmU s.units) (hM : SlR (CE encR) 3 w ma r.miss) (hml : r.miss.length ≤ 1000000) :
    Calls Try.prog N_sender_Report #[aggS s a c, (.agg #[.int .i64 r.upto, .slice ma r.miss.length mc])] w (RetO w (repS s r).1 (repS s r).2) := by
  apply F_sender_Report_ok
  unfold F_sender_Report
  have H := St.nil w
  refine H.alloc ?_; clear H; intro b0 w1 H1
  refine H1.alloc ?_; clear H1; intro b1 w2 H2
  refine H2.alloc ?_; clear H2; intro b2 w3 H3
  simp only [List.cons_append, List.nil_append] at H3
  replace H3 : St (fun _ => False) [] w w3 [.blk b0 Ty_api_Sender (encS s a c), .blk b1 Ty_api_Status [.int .i64 r.upto, .slice ma r.miss.length mc], .blk b2 Ty_api_Sender (encS .zero none 0)] (fun _ => True) := H3
  refine ⟨fun w8 => St (fun _ => False) [] w w8 [.blk b0 Ty_api_Sender (encS s a c), .blk b1 Ty_api_Status [.int .i64 r.upto, .slice ma r.miss.length mc], .blk b2 Ty_api_Sender (encS .zero none 0)] (fun _ => True) ∧ s.okB = true ∧ okS s.lk.bits r, ?_, ?_⟩
  · rintro _  w8 ⟨H8, hok, hst⟩
    refine ⟨_, _, _, _, _, _, _, _, _, _, _, _, _, _, _, H8.cells (i := 0) rfl, ?_⟩
    refine (sender_begin_ct (unR_below hu H8.below) hl).mono ?_
    have hno : ¬ (s.okB = false ∨ ¬ okS s.lk.bits r) := fun h => by
      rcases h with h | h
      · rw [hok] at h; cases h
      · exact h hst
    rw [repS, if_neg hno]
    rintro _ w9 (⟨hE, rfl, hb9⟩ | ⟨hE, b, ua, uc, L, hL, rfl, K9⟩)
    · have H9 := H8.pass hb9; clear H8
      have hfa : s.failed = true := by
        unfold begE at hE
        rw [if_neg (by rw [hok]; decide)] at hE
        split at hE
        · assumption
        · exact absurd rfl hE
      have hE16 : begE s = 16 := by rw [begE, if_neg (by rw [hok]; decide), if_pos hfa]
      refine ⟨_, _, rfl, ?_⟩
      refine bsplit_nd (fun _ => ?_) (fun h => absurd h hE)
      rw [if_pos hfa, hE16]
      exact retZ H9 (i := 2) rfl rfl
    have H9 := H8.callF K9; clear H8
    refine ⟨_, _, rfl, ?_⟩
    refine bsplit_nd (fun h => absurd rfl h) (fun _ => ?_)
    obtain ⟨-, hfa⟩ := begE_ok hE
    rw [if_neg (by rw [hfa]; decide)]
    obtain ⟨⟨hf1, hf2⟩, hlk, hsf, hsn, hall⟩ := okB_fit hok
    have hlen : L.length = s.units.length := by rw [← hL, List.length_map]
    have hb := hlk.1
    simp only [List.cons_append, List.nil_append] at H9
    refine H9.ld (i := 1) rfl rfl ?_
    refine (place_cells (H9.cells (i := 3) rfl) hb).mono ?_
    rintro _ w11 ⟨rfl, hb11⟩; have H11 := H9.pass hb11; clear H9
    refine ⟨_, rfl, ?_⟩
    refine kNil_in ?_
    rw [add_mk]
    refine H11.ld (i := 3) rfl rfl ?_
    refine (place_cells (H11.cells (i := 3) rfl) hb).mono ?_
    rintro _ w12 ⟨rfl, hb12⟩; have H12 := H11.pass hb12; clear H11
    refine ⟨_, rfl, ?_⟩
    refine bsplit_dec (fun c11 => ?_) (fun c11 => ?_) --  (decide (r4 > r5))
    · rw [if_pos c11]
      exact retZ H12 (i := 2) rfl rfl
    rw [if_neg c11]
    obtain ⟨t, ht⟩ : ∃ t : Sd, t = { s with poll := if s.poll ≠ -1 ∧ s.place s.poll < s.place r.upto then -1 else s.poll, left := if s.poll ≠ -1 ∧ s.place s.poll < s.place r.upto then 0 else s.left } := ⟨_, rfl⟩
    refine ⟨fun w17 => St (fun _ => False) [] w w17 (.blk b0 Ty_api_Sender (encS s a c) :: .blk b1 Ty_api_Status [.int .i64 r.upto, .slice ma r.miss.length mc] :: .blk b2 Ty_api_Sender (encS .zero none 0) :: .blk b Ty_sender_side (encS t ua uc) :: .els encUP Ty_api_Unit 5 ua uc L :: L.map agR) (fun w => DatR L w ∧ True), ?_, ?_⟩
    · rintro _  w17 H17
      have htu : t.units = s.units := by rw [ht]
      have htl : t.lk = s.lk := by rw [ht]
      have htf : t.first = s.first := by rw [ht]
      have htn : t.next = s.next := by rw [ht]
      have htfa : t.failed = false := by rw [ht]; exact hfa
      refine kNil_in ?_
      rw [add_mk]
      refine H17.ldS (i := 3) rfl rfl ?_
      have H17 := (H17.nilE encUP Ty_api_Unit 5)
      have H17 := St.lastTo (X := [_, _, _, _, _]) H17
      simp only [List.cons_append, List.nil_append] at H17
      have hb' : bitsOk t.lk.bits := by rw [htl]; exact hb
      have hpl : ∀ (fl : Bool) (n : Int), ({ t with failed := fl } : Sd).place n = s.place n := fun fl n => by rw [ht]; rfl
      have e0 : ({ t with failed := false } : Sd) = t := by rw [ht] at htfa ⊢; cases s; simp at htfa ⊢; exact htfa
      refine ⟨fun left_a left_l left_c x => ((s.units.length - x).toNat, fun w18 => ∃ (k : Nat) (O : List UP), x = k ∧ k ≤ s.units.length ∧ left_l = O.length ∧ O.map (·.u) = (repF s r k).1 ∧ FromL L O ∧
        St (fun _ => False) [] w w18 (.blk b0 Ty_api_Sender (encS s a c) :: .blk b1 Ty_api_Status [.int .i64 r.upto, .slice ma r.miss.length mc] :: .blk b2 Ty_api_Sender (encS .zero none 0) :: .blk b Ty_sender_side (encS { t with failed := (repF s r k).2 } ua uc) :: .els encUP Ty_api_Unit 5 ua uc L :: .els encUP Ty_api_Unit 5 left_a left_c O :: (O.map agR ++ (L.drop k).map agR)) (DatR L)),
        ⟨0, [], rfl, by omega, rfl, rfl, fun y hy => by simp at hy, by
          have : (repF s r 0).2 = false := rfl
          rw [this, e0]; exact H17.imp fun _ h => h.1⟩, ?_⟩
      clear H17
      rintro _ left_a left_l left_c x11 w18 ⟨k, O, rfl, hk, rfl, hO, hF, H18⟩
      rw [show t.units.length = s.units.length by rw [htu]]
      have hOl : O.length ≤ k := by have := repF_len (s := s) (r := r) hk; rw [← hO, List.length_map] at this; exact this
      refine bsplit_dec (fun c10 => ?_) (fun c10 => ?_) --  (decide (x11 < (x_l : Int)))
      · have hlt : k < s.units.length := by omega
        have hkL : k < L.length := by omega
        obtain ⟨x, hx⟩ : ∃ x, x = L[k] := ⟨_, rfl⟩
        have hxm : x ∈ L := by rw [hx]; exact List.getElem_mem _
        have hxu : s.units[k] = x.u := by rw [hx]; simp [← hL]
        have hmu : x.u ∈ s.units := by rw [← hxu]; exact List.getElem_mem _
        have hstep := repF_step (r := r) hlt
        rw [hxu] at hstep
        have hdr : L.drop k = x :: L.drop (k + 1) := by rw [List.drop_eq_getElem_cons hkL, ← hx]
        rw [hdr, List.map_cons] at H18
        have htr := unB_sent (hall x.u hmu).1
        have htr0 := hlk.2.2.2.2.2
        obtain ⟨f, hf⟩ : ∃ f, f = (repF s r k).2 := ⟨_, rfl⟩
        rw [← hf] at H18
        obtain ⟨p, hp⟩ : ∃ p, p = repF s r k := ⟨_, rfl⟩
        rw [← hp] at hstep hO hf
        obtain ⟨g, hg, hg1, hg2⟩ := H18.rowSome (i := 4) rfl (by omega)
        subst hg
        refine kIx_at ⟨by omega, by omega⟩ ?_
        simp only [elA0]
        have cx := H18.cellsEl encUP_ok (i := 4) rfl hkL
        rw [← hx] at cx
        refine ⟨_, _, _, _, _, _, _, _, _, cx, ?_⟩
        refine H18.alloc ?_; clear H18; intro b4 w19 H19
        have H19 := St.lastTo (X := [_, _, _, _, _, _]) H19
        simp only [List.cons_append, List.nil_append] at H19
        refine H19.store (i := 6) rfl (by rfl) (by rfl) ?_; clear H19; intro w20 H20
        simp only [List.set_cons_succ, List.set_cons_zero] at H20
        replace H20 : St (fun _ => False) [] w w20 (.blk b0 Ty_api_Sender (encS s a c) :: .blk b1 Ty_api_Status [.int .i64 r.upto, .slice ma r.miss.length mc] :: .blk b2 Ty_api_Sender (encS .zero none 0) :: .blk b Ty_sender_side (encS { t with failed := f } (some ⟨g, 0, none⟩) uc) :: .els encUP Ty_api_Unit 5 (some ⟨g, 0, none⟩) uc L :: .els encUP Ty_api_Unit 5 left_a left_c O :: .blk b4 Ty_api_Unit (encU x.u x.a x.c x.a2 x.c2) :: (O.map agR ++ agR x :: (L.drop (k + 1)).map agR)) (DatR L) := H20
        refine ⟨_, _, _, _, _, _, _, _, _, H20.cells (i := 6) rfl, ?_⟩
        refine ⟨_, _, _, _, H20.cells (i := 1) rfl, ?_⟩
        refine (sender_missing_ct (hM.belowE H20.below) hml).mono ?_
        rintro _ w21 ⟨qa, qc, rfl, K21⟩
        have H21 := H20.callR K21; clear H20
        have H21 := St.lastTo (X := [_, _, _, _, _, _, _]) H21
        simp only [List.cons_append, List.nil_append] at H21
        refine ⟨_, _, _, _, rfl, ?_⟩
        refine ⟨fun w26 => ∃ (v : UP) (fl : Bool), repF s r (k + 1) = (p.1 ++ [v.u], fl) ∧ (v.a = x.a ∧ v.c = x.c) ∧ v.u.data = x.u.data ∧
          St (fun _ => False) [] w w26 (.blk b0 Ty_api_Sender (encS s a c) :: .blk b1 Ty_api_Status [.int .i64 r.upto, .slice ma r.miss.length mc] :: .blk b2 Ty_api_Sender (encS .zero none 0) :: .blk b Ty_sender_side (encS { t with failed := fl } (some ⟨g, 0, none⟩) uc) :: .els encUP Ty_api_Unit 5 (some ⟨g, 0, none⟩) uc L :: .els encUP Ty_api_Unit 5 left_a left_c O :: .blk b4 Ty_api_Unit (encUP v) :: (O.map agR ++ ([agR v] ++ (L.drop (k + 1)).map agR))) (DatR L), ?_, ?_⟩
        · rintro _  w26 ⟨v, fl, hv, hva, hvd, H26⟩
          refine ⟨_, _, _, _, _, _, _, _, _, H26.cells (i := 6) rfl, ?_⟩
          refine H26.alloc ?_; clear H26; intro b5 w27 H27
          refine H27.appEL [v] encUP_ok (i := 5) rfl sl_Ty_S_api_Unit rfl (by simp; omega) (by simp; omega) ?_
          clear H27; intro x_a2 x_c2 w28 H28
          simp only [List.set_cons_succ, List.set_cons_zero] at H28
          have H28 := St.skip (X := [_, _, _, _, _, _]) H28
          simp only [List.cons_append, List.nil_append] at H28
          refine kW_i64 (by omega) ?_ -- x11 + (1 : Int)
          refine ⟨⟨k + 1, O ++ [v], by omega, by omega, rfl, ?_, fromL_snoc hF hxm hva hvd, ?_⟩, by first | omega | (dsimp only; omega)⟩
          · rw [List.map_append, hO, hv]; rfl
          · rw [hv, List.map_append, List.append_assoc]; exact H28
        · have keep : ∀ {w' : World}, repF s r (k + 1) = (p.1 ++ [x.u], f) → St (fun _ => False) [] w w' (.blk b0 Ty_api_Sender (encS s a c) :: .blk b1 Ty_api_Status [.int .i64 r.upto, .slice ma r.miss.length mc] :: .blk b2 Ty_api_Sender (encS .zero none 0) :: .blk b Ty_sender_side (encS { t with failed := f } (some ⟨g, 0, none⟩) uc) :: .els encUP Ty_api_Unit 5 (some ⟨g, 0, none⟩) uc L :: .els encUP Ty_api_Unit 5 left_a left_c O :: .blk b4 Ty_api_Unit (encU x.u x.a x.c x.a2 x.c2) :: .els encR Ty_api_Range 3 qa qc (missS x.u r.miss).1 :: (O.map agR ++ agR x :: (L.drop (k + 1)).map agR)) (DatR L) →
              ∃ (v : UP) (fl : Bool), repF s r (k + 1) = (p.1 ++ [v.u], fl) ∧ (v.a = x.a ∧ v.c = x.c) ∧ v.u.data = x.u.data ∧ St (fun _ => False) [] w w' (.blk b0 Ty_api_Sender (encS s a c) :: .blk b1 Ty_api_Status [.int .i64 r.upto, .slice ma r.miss.length mc] :: .blk b2 Ty_api_Sender (encS .zero none 0) :: .blk b Ty_sender_side (encS { t with failed := fl } (some ⟨g, 0, none⟩) uc) :: .els encUP Ty_api_Unit 5 (some ⟨g, 0, none⟩) uc L :: .els encUP Ty_api_Unit 5 left_a left_c O :: .blk b4 Ty_api_Unit (encUP v) :: (O.map agR ++ ([agR v] ++ (L.drop (k + 1)).map agR))) (DatR L) := fun h H =>
            ⟨x, f, h, ⟨rfl, rfl⟩, rfl, St.skip (X := [_, _, _, _, _, _, _]) H⟩
          have new : ∀ {w' : World} {v : UP} {fl : Bool}, repF s r (k + 1) = (p.1 ++ [v.u], fl) → (v.a = x.a ∧ v.c = x.c) → v.u.data = x.u.data → agR v = .els encR Ty_api_Range 3 qa qc (missS x.u r.miss).1 → St (fun _ => False) [] w w' (.blk b0 Ty_api_Sender (encS s a c) :: .blk b1 Ty_api_Status [.int .i64 r.upto, .slice ma r.miss.length mc] :: .blk b2 Ty_api_Sender (encS .zero none 0) :: .blk b Ty_sender_side (encS { t with failed := fl } (some ⟨g, 0, none⟩) uc) :: .els encUP Ty_api_Unit 5 (some ⟨g, 0, none⟩) uc L :: .els encUP Ty_api_Unit 5 left_a left_c O :: .blk b4 Ty_api_Unit (encUP v) :: .els encR Ty_api_Range 3 qa qc (missS x.u r.miss).1 :: (O.map agR ++ agR x :: (L.drop (k + 1)).map agR)) (DatR L) →
              ∃ (v : UP) (fl : Bool), repF s r (k + 1) = (p.1 ++ [v.u], fl) ∧ (v.a = x.a ∧ v.c = x.c) ∧ v.u.data = x.u.data ∧ St (fun _ => False) [] w w' (.blk b0 Ty_api_Sender (encS s a c) :: .blk b1 Ty_api_Status [.int .i64 r.upto, .slice ma r.miss.length mc] :: .blk b2 Ty_api_Sender (encS .zero none 0) :: .blk b Ty_sender_side (encS { t with failed := fl } (some ⟨g, 0, none⟩) uc) :: .els encUP Ty_api_Unit 5 (some ⟨g, 0, none⟩) uc L :: .els encUP Ty_api_Unit 5 left_a left_c O :: .blk b4 Ty_api_Unit (encUP v) :: (O.map agR ++ ([agR v] ++ (L.drop (k + 1)).map agR))) (DatR L) := fun {w' v fl} h h1 h2 h3 H => by
            refine ⟨v, fl, h, h1, h2, ?_⟩
            have H1 := St.newIn (X := [_, _, _, _, _, _, _]) H
            rw [← List.append_assoc, show ∀ (A B : List Res) (y z : Res), A ++ y :: z :: B = (A ++ [y]) ++ z :: B from fun A B y z => by simp] at H1
            have H2 := St.skip H1
            rw [h3]
            simpa using H2
          refine H21.ld (i := 6) rfl rfl ?_
          refine (place_cells (H21.cells (i := 3) rfl) hb').mono ?_
          rintro _ w22 ⟨rfl, hb22⟩; have H22 := H21.pass hb22; clear H21
          refine ⟨_, rfl, ?_⟩
          rw [hpl]
          refine kLet_in ?_
          refine bsplit_dec (fun c8 => ?_) (fun c8 => ?_) --  (decide (r8 ≥ r4))
          · exact keep (by rw [hstep, repStep, if_pos c8, hf]) H22
          · rw [repStep, if_neg (by omega)] at hstep
            refine bsplit_intro (fun c7 => ?_) (fun c7 => ?_) --  r7
            · rw [if_pos c7] at hstep
              refine H22.ldS (i := 6) rfl rfl ?_
              refine kLet_in ?_
              refine H22.set (i := 6) rfl (by show 4 < 5; decide) ?_; clear H22; intro w23 H23
              simp only [List.set_cons_succ, List.set_cons_zero] at H23
              obtain ⟨y, hy⟩ : ∃ y : UP, y = ⟨{ x.u with again := (missS x.u r.miss).1 }, x.a, x.c, qa, qc⟩ := ⟨_, rfl⟩
              have e6 : (encU x.u x.a x.c x.a2 x.c2).set 4 (.slice qa (missS x.u r.miss).1.length qc) = encUP y := by rw [hy]; rfl
              rw [e6] at H23
              have eqn : y.u = { x.u with again := (missS x.u r.miss).1 } := by rw [hy]
              have same : ∀ {w' : World}, repF s r (k + 1) = (p.1 ++ [{ x.u with again := (missS x.u r.miss).1 }], p.2) → St (fun _ => False) [] w w' (.blk b0 Ty_api_Sender (encS s a c) :: .blk b1 Ty_api_Status [.int .i64 r.upto, .slice ma r.miss.length mc] :: .blk b2 Ty_api_Sender (encS .zero none 0) :: .blk b Ty_sender_side (encS { t with failed := f } (some ⟨g, 0, none⟩) uc) :: .els encUP Ty_api_Unit 5 (some ⟨g, 0, none⟩) uc L :: .els encUP Ty_api_Unit 5 left_a left_c O :: .blk b4 Ty_api_Unit (encUP y) :: .els encR Ty_api_Range 3 qa qc (missS x.u r.miss).1 :: (O.map agR ++ agR x :: (L.drop (k + 1)).map agR)) (DatR L) → _ := fun {w'} h H =>
                new (w' := w') (v := y) (fl := f) (by rw [h, eqn, hf]) (by rw [hy]; exact ⟨rfl, rfl⟩) (by rw [hy]) (by rw [hy]; rfl) H
              refine bsplit_dec (fun c5 => ?_) (fun c5 => ?_) --  (decide ((x_4_l : Int) = (0 : Int)))
              · refine bsplit_dec (fun c4 => ?_) (fun c4 => ?_) --  (decide ((r_l : Int) > (0 : Int)))
                · rw [if_pos ⟨by omega, by omega⟩] at hstep
                  refine F_sender_side_again_ok b 0 b4 0 w23 ?_
                  unfold F_sender_side_again
                  refine H23.drew ?_; clear H23; intro w24 H24
                  refine H24.ld (i := 6) (x := x.u.tries) rfl (by rw [hy]; rfl) ?_
                  refine H24.ld (i := 3) rfl rfl ?_
                  rw [← htl] at hstep
                  refine bsplit_dec (fun c9 => ?_) (fun c9 => ?_)
                  · rw [if_pos c9] at hstep
                    refine H24.set (i := 3) rfl (by show 0 + 12 < 13; decide) ?_; clear H24; intro w25 H25
                    simp only [List.set_cons_succ, List.set_cons_zero] at H25
                    exact ⟨rfl, new (v := y) (fl := true) (by rw [hstep, eqn]) (by rw [hy]; exact ⟨rfl, rfl⟩) (by rw [hy]) (by rw [hy]; rfl) H25⟩
                  · rw [if_neg c9] at hstep
                    refine H24.ld (i := 6) (x := x.u.tries) rfl (by rw [hy]; rfl) ?_
                    refine kW_i64 (by omega) ?_
                    refine H24.set (i := 6) rfl (by rw [hy]; show 0 + 3 < 5; decide) ?_; clear H24; intro w25 H25
                    simp only [List.set_cons_succ, List.set_cons_zero] at H25
                    obtain ⟨z, hz⟩ : ∃ z : UP, z = ⟨{ x.u with again := (missS x.u r.miss).1, tries := x.u.tries + 1 }, x.a, x.c, qa, qc⟩ := ⟨_, rfl⟩
                    have e7 : (encUP y).set (0 + 3) (.int .i64 (x.u.tries + 1)) = encUP z := by rw [hy, hz]; rfl
                    rw [e7] at H25
                    exact ⟨rfl, new (v := z) (fl := f) (by rw [hstep, hz, hf]) (by rw [hz]; exact ⟨rfl, rfl⟩) (by rw [hz]) (by rw [hz]; rfl) H25⟩
                · rw [if_neg (by omega)] at hstep
                  exact same hstep H23
              · rw [if_neg (by omega)] at hstep
                exact same hstep H23
            · rw [if_neg (by rw [c7]; decide)] at hstep
              refine ⟨_, _, _, _, _, _, _, _, _, H22.cells (i := 6) rfl, ?_⟩
              refine (sender_whole_ct (u := x.u) (a := x.a) (c := x.c) (a2 := x.a2) (c2 := x.c2)).mono ?_
              rintro _ w25 ⟨rfl, hb25⟩; have H25 := H22.pass hb25; clear H22
              refine ⟨_, rfl, ?_⟩
              refine bsplit_dec (fun c6 => ?_) (fun c6 => ?_) --  r9
              · rw [if_pos c6] at hstep
                refine kW_i64 (by omega) ?_ -- x11 + (1 : Int)
                have H26 := St.skip (X := [_, _, _, _, _, _, _]) H25
                have H27 := St.skip (X := [_, _, _, _, _, _]) H26
                simp only [List.cons_append, List.nil_append] at H27
                have H28 := St.skip (X := ((.blk b0 Ty_api_Sender (encS s a c) :: .blk b1 Ty_api_Status [.int .i64 r.upto, .slice ma r.miss.length mc] :: .blk b2 Ty_api_Sender (encS .zero none 0) :: .blk b Ty_sender_side (encS { t with failed := f } (some ⟨g, 0, none⟩) uc) :: .els encUP Ty_api_Unit 5 (some ⟨g, 0, none⟩) uc L :: .els encUP Ty_api_Unit 5 left_a left_c O :: O.map agR) : List Res)) H27
                refine ⟨⟨k + 1, O, by omega, by omega, rfl, by rw [hstep]; exact hO, hF, ?_⟩, by first | omega | (dsimp only; omega)⟩
                rw [hstep, ← hf]; simpa using H28
              · rw [if_neg c6] at hstep
                exact keep (by rw [hstep, hf]) H25
      · obtain rfl : k = s.units.length := by omega
        have hfull : repF s r s.units.length = s.units.foldl (repStep s (s.place r.upto) r.miss) ([], false) := by rw [repF, List.take_length]
        obtain ⟨p, hp⟩ : ∃ p, p = repF s r s.units.length := ⟨_, rfl⟩
        rw [← hp] at hO H18 hfull
        have hOn : O.length = p.1.length := by rw [← hO, List.length_map]
        rw [List.drop_of_length_le (by omega), List.map_nil, List.append_nil] at H18
        have hT : repT s r = { t with units := p.1, failed := p.2, first := (match p.1 with | u :: _ => u.sn | [] => s.next) } := by rw [ht, hfull]; rfl
        refine kNil_in ?_
        rw [add_mk]
        refine H18.ld (i := 3) (x := t.next) rfl rfl ?_
        refine kNil_in ?_
        rw [add_mk]
        refine H18.set (i := 3) rfl (by show 0 + 8 < 13; decide) ?_; clear H18; intro w32 H32
        simp only [List.set_cons_succ, List.set_cons_zero] at H32
        refine kNil_in ?_
        rw [add_mk]
        refine H32.set (i := 3) rfl (by show 0 + 6 < 13; decide) ?_; clear H32; intro w33 H33
        simp only [List.set_cons_succ, List.set_cons_zero] at H33
        have fin : ∀ {w' : World} {x : Sd}, repT s r = x → O.map (·.u) = x.units → St (fun _ => False) [] w w' (.blk b0 Ty_api_Sender (encS s a c) :: .blk b1 Ty_api_Status [.int .i64 r.upto, .slice ma r.miss.length mc] :: .blk b2 Ty_api_Sender (encS .zero none 0) :: .blk b Ty_sender_side (encS x left_a left_c) :: .els encUP Ty_api_Unit 5 ua uc L :: .els encUP Ty_api_Unit 5 left_a left_c O :: O.map agR) (DatR L) →
            sxStore w' ⟨b2, 0, none⟩ 0 (encS x left_a left_c) fun w4 =>
              ∃ r_0 r_1 r_2 r_3 r_4 r_5 r_6 r_7 : Int, ∃ r_8_a : Option Addr, ∃ r_8_l r_8_c : Nat, ∃ r_9 r_10 r_11 : Int, ∃ r_12 : Bool,
                cellsAt w4 ⟨b2, 0, none⟩ 0 [(.int .i64 r_0), (.int .i64 r_1), (.int .i64 r_2), (.int .i64 r_3), (.int .i64 r_4), (.int .i64 r_5), (.int .i64 r_6), (.int .i64 r_7), (.slice r_8_a r_8_l r_8_c), (.int .i64 r_9), (.int .i64 r_10), (.int .i64 r_11), (.bool r_12)] ∧
                RetO w (repT s r) 0 (.returned (.tuple #[(.agg #[.int .i64 r_0, .int .i64 r_1, .int .i64 r_2, .int .i64 r_3, .int .i64 r_4, .int .i64 r_5, .int .i64 r_6, .int .i64 r_7, .slice r_8_a r_8_l r_8_c, .int .i64 r_9, .int .i64 r_10, .int .i64 r_11, .bool r_12]), (.int .i64 0)])) w4 := fun {w' x} hx hu H => by
          rw [hx]
          exact retS (x := x) (a := left_a) (c := left_c) (L := O) (i := 2) H rfl rfl hu fun w4 H4 => (H4.sub (fun i => i + 5) (fun i r hi => hi) (fun i j _ _ h => by omega)).imp fun w h => fromL_dat hF h
        refine bsplit_dec (fun c9 => ?_) (fun c9 => ?_) --  (decide ((left_l : Int) > (0 : Int)))
        · obtain ⟨g', hg', _, _⟩ := H33.rowSome (i := 5) rfl (by omega)
          subst hg'
          have hO0 : 0 < O.length := by omega
          refine kIx_at ⟨by omega, by omega⟩ ?_
          have c0 := H33.cellEl encUP_ok (i := 5) rfl hO0 (j := 0) (v := .int .i64 O[0].u.sn) (by decide) rfl
          refine ⟨_, by rw [show ((0 : Int).toNat * 5) = 0 from rfl, add_mk]; exact c0, ?_⟩
          refine kNil_in ?_
          rw [add_mk]
          refine H33.set (i := 3) rfl (by show 0 + 6 < 13; decide) ?_; clear H33; intro w34 H34
          simp only [List.set_cons_succ, List.set_cons_zero] at H34
          obtain ⟨x, hx⟩ : ∃ x : Sd, x = { t with units := p.1, failed := p.2, first := O[0].u.sn } := ⟨_, rfl⟩
          have hTx : repT s r = x := by
            rw [hT, hx]
            have : p.1 = O[0].u :: (O.drop 1).map (·.u) := by rw [← hO, ← List.map_cons (f := fun y : UP => y.u), ← List.drop_eq_getElem_cons hO0]; rfl
            rw [this]
          have e : ((((encS { t with failed := p.2 } ua uc).set (0 + 8) (.slice (some ⟨g', 0, none⟩) O.length left_c)).set (0 + 6) (.int .i64 t.next)).set (0 + 6) (.int .i64 O[0].u.sn)) = encS x (some ⟨g', 0, none⟩) left_c := by
            rw [hx, hOn]; rfl
          rw [e] at H34
          refine kNil_in ?_
          refine ⟨_, _, _, _, _, _, _, _, _, _, _, _, _, _, _, H34.cells (i := 3) rfl, ?_⟩
          exact fin hTx (by rw [hx]; exact hO) H34
        · have hO0 : O = [] := List.eq_nil_of_length_eq_zero (by omega)
          obtain ⟨x, hx⟩ : ∃ x : Sd, x = { t with units := p.1, failed := p.2, first := t.next } := ⟨_, rfl⟩
          have hTx : repT s r = x := by
            rw [hT, hx]
            have : p.1 = [] := by rw [← hO, hO0]; rfl
            rw [this, htn]
          have e : (((encS { t with failed := p.2 } ua uc).set (0 + 8) (.slice left_a O.length left_c)).set (0 + 6) (.int .i64 t.next)) = encS x left_a left_c := by
            rw [hx, hOn]; rfl
          rw [e] at H33
          refine kNil_in ?_
          refine ⟨_, _, _, _, _, _, _, _, _, _, _, _, _, _, _, H33.cells (i := 3) rfl, ?_⟩
          exact fin hTx (by rw [hx]; exact hO) H33
    · refine kNil_in ?_
      rw [add_mk]
      refine H12.ld (i := 3) rfl rfl ?_
      refine bsplit_nd (fun c3 => ?_) (fun c3 => ?_)
      · refine kNil_in ?_
        rw [add_mk]
        refine H12.ld (i := 3) rfl rfl ?_
        refine (place_cells (H12.cells (i := 3) rfl) hb).mono ?_
        rintro _ w14 ⟨rfl, hb14⟩; have H14 := H12.pass hb14; clear H12
        refine ⟨_, rfl, ?_⟩
        refine bsplit_dec (fun c2 => ?_) (fun c2 => ?_)
        · refine kNil_in ?_
          rw [add_mk]
          refine H14.set (i := 3) rfl (by show 0 + 10 < 13; decide) ?_; clear H14; intro w15 H15
          simp only [List.set_cons_succ, List.set_cons_zero] at H15
          refine kNil_in ?_
          rw [add_mk]
          refine H15.set (i := 3) rfl (by show 0 + 11 < 13; decide) ?_; clear H15; intro w16 H16
          simp only [List.set_cons_succ, List.set_cons_zero] at H16
          rw [ht, if_pos ⟨c3, c2⟩, if_pos ⟨c3, c2⟩]; exact H16
        · rw [ht, if_neg (fun h => c2 h.2), if_neg (fun h => c2 h.2)]; exact H14
      · rw [ht, if_neg (fun h => h.1 c3), if_neg (fun h => h.1 c3)]; exact H12
  · refine ⟨_, _, _, _, _, _, _, _, _, _, _, _, _, _, _, H3.cells (i := 0) rfl, ?_⟩
    refine (sender_Valid_ct (unR_below hu H3.below) hl).mono ?_
    rintro _ w4 ⟨rfl, hb4⟩; have H4 := H3.pass hb4; clear H3
    refine ⟨_, rfl, ?_⟩
    refine bsplit_n (fun c1 => ?_) (fun c1 => ?_) --  (!r)
    · rw [repS, if_pos (.inl c1)]
      exact retZ H4 (i := 2) rfl rfl
    · refine H4.ld (i := 0) rfl rfl ?_
      refine ⟨_, _, _, _, H4.cells (i := 1) rfl, ?_⟩
      refine (status_Valid_ct (hM.belowE H4.below) (by omega)).mono ?_
      rintro _ w6 ⟨rfl, hb6⟩; have H6 := H4.pass hb6; clear H4
      refine ⟨_, rfl, ?_⟩
      refine bsplit_nd (fun c => ?_) (fun c => ?_) --  (!r1)
      · rw [repS, if_pos (.inr c)]
        exact retZ H6 (i := 2) rfl rfl
      · exact ⟨H6, c1, c⟩
end Go.Proofs.Ytmhggobilcmdmaa
namespace Go.Sx
theorem okB_poll {s : Sd} (h : s.okB = true) : s.poll ≠ -1 ↔ 0 ≤ s.poll := by
  obtain ⟨-, -, -, -, hall⟩ := okB_fit h
  unfold Sd.okB at h
  simp only [Bool.and_eq_true] at h
  have h2 := h.2
  split at h2
  · omega
  · simp only [Bool.and_eq_true] at h2
    obtain ⟨u, hu, hq⟩ := List.any_eq_true.1 h2.1
    simp only [decide_eq_true_eq] at hq
    have h1 := (hall u hu).1
    unfold unB at h1
    simp only [Bool.and_eq_true, decide_eq_true_eq] at h1
    have h3 := h1.1.1.1
    unfold snOk at h3
    omega
end Go.Sx
namespace Go.Proofs.Ytmhggobilcmdmaa
open Go.Sx Go.RowKit
set_option maxRecDepth 100000

theorem ref20_Report_ct {s : Sd} {r : Stt} {a ma : Option Addr} {c mc : Nat} {w : World} (hu : UnR w a s.units) (hl : SmU s.units) (hM : SlR (CE encR) 3 w ma r.miss) (hml : r.miss.length ≤ 1000000) :
    Calls Try.prog N_ref20_Report #[aggS s a c, (.agg #[.int .i64 r.upto, .slice ma r.miss.length mc])] w (RetO w (repS s r).1 (repS s r).2) := by
  apply F_ref20_Report_ok
  unfold F_ref20_Report
  have H := St.nil w
  refine H.alloc ?_; clear H; intro b0 w1 H1
  refine H1.alloc ?_; clear H1; intro b1 w2 H2
  refine H2.alloc ?_; clear H2; intro b2 w3 H3
  simp only [List.cons_append, List.nil_append] at H3
  replace H3 : St (fun _ => False) [] w w3 [.blk b0 Ty_api_Sender (encS s a c), .blk b1 Ty_api_Status [.int .i64 r.upto, .slice ma r.miss.length mc], .blk b2 Ty_api_Sender (encS .zero none 0)] (fun _ => True) := H3
  refine ⟨fun x1 w6 => St (fun _ => False) [] w w6 [.blk b0 Ty_api_Sender (encS s a c), .blk b1 Ty_api_Status [.int .i64 r.upto, .slice ma r.miss.length mc], .blk b2 Ty_api_Sender (encS .zero none 0)] (fun _ => True) ∧ (x1 = true ↔ s.okB = false ∨ ¬ okS s.lk.bits r), ?_, ?_⟩
  · rintro _ x1 w6 ⟨H6, hj⟩
    refine bsplit_intro (fun c13 => ?_) (fun c13 => ?_) --  x1
    · rw [repS, if_pos (hj.1 c13)]
      exact retZ H6 (i := 2) rfl rfl
    have hno : ¬ (s.okB = false ∨ ¬ okS s.lk.bits r) := fun h => by rw [hj.2 h] at c13; cases c13
    have hok : s.okB = true := by
      cases h : s.okB
      · exact absurd (.inl h) hno
      · rfl
    rw [repS, if_neg hno]
    refine H6.ldB (i := 0) rfl rfl ?_
    refine bsplit_intro (fun c12 => ?_) (fun c12 => ?_) --  s_12
    · rw [if_pos c12]
      exact retZ H6 (i := 2) rfl rfl
    have hfa : s.failed = false := c12
    rw [if_neg (by rw [hfa]; decide)]
    obtain ⟨hfit, hlk, hsf, hsn, hall⟩ := okB_fit hok
    have hf1 := hfit.1
    have hb := hlk.1
    refine H6.ld (i := 0) rfl rfl ?_
    refine H6.ld (i := 0) rfl rfl ?_
    refine H6.ld (i := 1) rfl rfl ?_
    refine (ref20_Place_ct hb).mono ?_ -- (.int .i64 s_0), (.int .i64 s_6), (.int .i64 r_0)
    rintro _ w9 ⟨rfl, hb9⟩; have H9 := H6.pass hb9; clear H6
    refine ⟨_, rfl, ?_⟩
    refine H9.ld (i := 0) rfl rfl ?_
    refine H9.ld (i := 0) rfl rfl ?_
    refine (ref20_Place_ct hb).mono ?_ -- (.int .i64 s_0), (.int .i64 s_6), (.int .i64 s_7)
    rintro _ w10 ⟨rfl, hb10⟩; have H10 := H9.pass hb10; clear H9
    refine ⟨_, rfl, ?_⟩
    refine bsplit_dec (fun c11 => ?_) (fun c11 => ?_) --  (decide (r2 > r3))
    · rw [if_pos c11]
      exact retZ H10 (i := 2) rfl rfl
    rw [if_neg c11]
    refine ⟨_, _, _, _, _, _, _, _, _, _, _, _, _, _, _, H10.cells (i := 0) rfl, ?_⟩
    refine (ref20_Copy_ct (unR_below hu H10.below) hfit).mono ?_
    rintro _ w12 ⟨oa, oc, L1, hL1, rfl, K12⟩
    have H12 := H10.pass K12.below; clear H10 K12
    refine ⟨_, _, _, _, _, _, _, _, _, _, _, _, _, _, _, rfl, ?_⟩
    refine H12.alloc ?_; clear H12; intro b3 w13 H13
    simp only [List.cons_append, List.nil_append] at H13
    refine H13.store (i := 3) rfl (by rfl) (by rfl) ?_; clear H13; intro w14 H14
    simp only [List.set_cons_succ, List.set_cons_zero] at H14
    refine H14.set (i := 3) rfl (by show 8 < 13; decide) ?_; clear H14; intro w15 H15
    simp only [List.set_cons_succ, List.set_cons_zero] at H15
    refine ⟨_, _, _, _, _, _, _, _, _, _, _, _, _, _, _, H15.cells (i := 0) rfl, ?_⟩
    refine (ref20_Copy_ct (unR_below hu H15.below) hfit).mono ?_
    rintro _ w16 ⟨ua, uc, L, hL, rfl, K16⟩
    have hlen : L.length = s.units.length := by rw [← hL, List.length_map]
    have H16 := H15.callF K16; clear H15
    refine ⟨_, _, _, _, _, _, _, _, _, _, _, _, _, _, _, rfl, ?_⟩
    refine H16.alloc ?_; clear H16; intro b4 w17 H17
    have H17 := St.lastTo (X := [_, _, _, _]) H17
    simp only [List.cons_append, List.nil_append] at H17
    refine H17.store (i := 4) rfl (by rfl) (by rfl) ?_; clear H17; intro w18 H18
    simp only [List.set_cons_succ, List.set_cons_zero] at H18
    have H18 := (H18.nilE encUP Ty_api_Unit 5)
    have H18 := St.lastTo (X := [_, _, _, _, _, _]) H18
    simp only [List.cons_append, List.nil_append] at H18
    refine ⟨fun i => ((s.units.length - i).toNat, fun w19 => ∃ (k : Nat) (O : List UP) (la : Option Addr) (lc : Nat), i = k ∧ k ≤ s.units.length ∧ O.map (·.u) = (repF s r k).1 ∧ FromL L O ∧
      St (fun _ => False) [] w w19 (.blk b0 Ty_api_Sender (encS s a c) :: .blk b1 Ty_api_Status [.int .i64 r.upto, .slice ma r.miss.length mc] :: .blk b2 Ty_api_Sender (encS .zero none 0) :: .blk b3 Ty_api_Sender (encS { s with units := (repF s r k).1, failed := (repF s r k).2 } la lc) :: .blk b4 Ty_api_Sender (encS s ua uc) :: .els encUP Ty_api_Unit 5 ua uc L :: .els encUP Ty_api_Unit 5 la lc O :: (O.map agR ++ (L.drop k).map agR)) (DatR L)), ⟨0, [], none, 0, rfl, by omega, rfl, fun y hy => by simp at hy, by
        have e1 : (repF s r 0).2 = s.failed := hfa.symm
        have e2 : (repF s r 0).1 = [] := rfl
        rw [e1, e2]; exact H18.imp fun _ h => h.1⟩, ?_⟩
    clear H18
    rintro _ i w19 ⟨k, O, la, lc, rfl, hk, hO, hF, H19⟩
    have hOl : O.length ≤ k := by have := repF_len (s := s) (r := r) hk; rw [← hO, List.length_map] at this; exact this
    have hOn : O.length = (repF s r k).1.length := by rw [← hO, List.length_map]
    refine H19.ldS (i := 4) rfl rfl ?_
    refine bsplit_dec (fun c10 => ?_) (fun c10 => ?_) --  (decide (i < (r_8_l4 : Int)))
    · have hlt : k < s.units.length := by omega
      have hkL : k < L.length := by omega
      obtain ⟨x, hx⟩ : ∃ x, x = L[k] := ⟨_, rfl⟩
      have hxm : x ∈ L := by rw [hx]; exact List.getElem_mem _
      have hxu : s.units[k] = x.u := by rw [hx]; simp [← hL]
      have hmu : x.u ∈ s.units := by rw [← hxu]; exact List.getElem_mem _
      have hstep := repF_step (r := r) hlt
      rw [hxu] at hstep
      have hdr : L.drop k = x :: L.drop (k + 1) := by rw [List.drop_eq_getElem_cons hkL, ← hx]
      rw [hdr, List.map_cons] at H19
      have htr := unB_sent (hall x.u hmu).1
      have htr0 := hlk.2.2.2.2.2
      obtain ⟨p, hp⟩ : ∃ p, p = repF s r k := ⟨_, rfl⟩
      rw [← hp] at hstep hO H19 hOn
      refine H19.ldS (i := 4) rfl rfl ?_
      obtain ⟨g, hg, hg1, hg2⟩ := H19.rowSome (i := 5) rfl (by omega)
      subst hg
      refine kIx_at ⟨by omega, by omega⟩ ?_
      simp only [elA0]
      have cx := H19.cellsEl encUP_ok (i := 5) rfl hkL
      rw [← hx] at cx
      refine ⟨_, _, _, _, _, _, _, _, _, cx, ?_⟩
      refine H19.alloc ?_; clear H19; intro b6 w20 H20
      have H20 := St.lastTo (X := [_, _, _, _, _, _, _]) H20
      simp only [List.cons_append, List.nil_append] at H20
      refine H20.store (i := 7) rfl (by rfl) (by rfl) ?_; clear H20; intro w21 H21
      simp only [List.set_cons_succ, List.set_cons_zero] at H21
      replace H21 : St (fun _ => False) [] w w21 (.blk b0 Ty_api_Sender (encS s a c) :: .blk b1 Ty_api_Status [.int .i64 r.upto, .slice ma r.miss.length mc] :: .blk b2 Ty_api_Sender (encS .zero none 0) :: .blk b3 Ty_api_Sender (encS { s with units := p.1, failed := p.2 } la lc) :: .blk b4 Ty_api_Sender (encS s (some ⟨g, 0, none⟩) uc) :: .els encUP Ty_api_Unit 5 (some ⟨g, 0, none⟩) uc L :: .els encUP Ty_api_Unit 5 la lc O :: .blk b6 Ty_api_Unit (encUP x) :: (O.map agR ++ agR x :: (L.drop (k + 1)).map agR)) (DatR L) := H21
      refine ⟨fun w27 => ∃ (v : UP) (fl : Bool), repF s r (k + 1) = (p.1 ++ [v.u], fl) ∧ (v.a = x.a ∧ v.c = x.c) ∧ v.u.data = x.u.data ∧
        St (fun _ => False) [] w w27 (.blk b0 Ty_api_Sender (encS s a c) :: .blk b1 Ty_api_Status [.int .i64 r.upto, .slice ma r.miss.length mc] :: .blk b2 Ty_api_Sender (encS .zero none 0) :: .blk b3 Ty_api_Sender (encS { s with units := p.1, failed := fl } la lc) :: .blk b4 Ty_api_Sender (encS s (some ⟨g, 0, none⟩) uc) :: .els encUP Ty_api_Unit 5 (some ⟨g, 0, none⟩) uc L :: .els encUP Ty_api_Unit 5 la lc O :: .blk b6 Ty_api_Unit (encUP v) :: (O.map agR ++ ([agR v] ++ (L.drop (k + 1)).map agR))) (DatR L), ?_, ?_⟩
      · rintro _  w27 ⟨v, fl, hv, hva, hvd, H27⟩
        refine H27.ldS (i := 3) rfl rfl ?_
        refine ⟨_, _, _, _, _, _, _, _, _, H27.cells (i := 7) rfl, ?_⟩
        refine H27.alloc ?_; clear H27; intro b7 w28 H28
        rw [← hOn]
        refine H28.appEL [v] encUP_ok (i := 6) rfl sl_Ty_S_api_Unit rfl (by simp; omega) (by simp; omega) ?_
        clear H28; intro x_a5 x_c5 w29 H29
        simp only [List.set_cons_succ, List.set_cons_zero] at H29
        have H29 := St.skip (X := [_, _, _, _, _, _, _]) H29
        simp only [List.cons_append, List.nil_append] at H29
        refine H29.set (i := 3) rfl (by show 8 < 13; decide) ?_; clear H29; intro w30 H30
        simp only [List.set_cons_succ, List.set_cons_zero] at H30
        refine kW_i64 (by omega) ?_ -- i + (1 : Int)
        have e3 : (encS { s with units := p.1, failed := fl } la lc).set 8 (.slice x_a5 (O ++ [v]).length x_c5) = encS { s with units := p.1 ++ [v.u], failed := fl } x_a5 x_c5 := by
          rw [show (O ++ [v]).length = (p.1 ++ [v.u]).length by simp [hOn]]; rfl
        rw [e3] at H30
        refine ⟨⟨k + 1, O ++ [v], x_a5, x_c5, by omega, by omega, ?_, fromL_snoc hF hxm hva hvd, ?_⟩, by first | omega | (dsimp only; omega)⟩
        · rw [List.map_append, hO, hv]; rfl
        · rw [hv, List.map_append, List.append_assoc]; exact H30
      · have keep : ∀ {w' : World}, repF s r (k + 1) = (p.1 ++ [x.u], p.2) → St (fun _ => False) [] w w' (.blk b0 Ty_api_Sender (encS s a c) :: .blk b1 Ty_api_Status [.int .i64 r.upto, .slice ma r.miss.length mc] :: .blk b2 Ty_api_Sender (encS .zero none 0) :: .blk b3 Ty_api_Sender (encS { s with units := p.1, failed := p.2 } la lc) :: .blk b4 Ty_api_Sender (encS s (some ⟨g, 0, none⟩) uc) :: .els encUP Ty_api_Unit 5 (some ⟨g, 0, none⟩) uc L :: .els encUP Ty_api_Unit 5 la lc O :: .blk b6 Ty_api_Unit (encUP x) :: (O.map agR ++ agR x :: (L.drop (k + 1)).map agR)) (DatR L) →
            ∃ (v : UP) (fl : Bool), repF s r (k + 1) = (p.1 ++ [v.u], fl) ∧ (v.a = x.a ∧ v.c = x.c) ∧ v.u.data = x.u.data ∧ St (fun _ => False) [] w w' (.blk b0 Ty_api_Sender (encS s a c) :: .blk b1 Ty_api_Status [.int .i64 r.upto, .slice ma r.miss.length mc] :: .blk b2 Ty_api_Sender (encS .zero none 0) :: .blk b3 Ty_api_Sender (encS { s with units := p.1, failed := fl } la lc) :: .blk b4 Ty_api_Sender (encS s (some ⟨g, 0, none⟩) uc) :: .els encUP Ty_api_Unit 5 (some ⟨g, 0, none⟩) uc L :: .els encUP Ty_api_Unit 5 la lc O :: .blk b6 Ty_api_Unit (encUP v) :: (O.map agR ++ ([agR v] ++ (L.drop (k + 1)).map agR))) (DatR L) := fun h H => ⟨x, p.2, h, ⟨rfl, rfl⟩, rfl, H⟩
        have new : ∀ {w' : World} {v : UP} {fl : Bool} {qa : Option Addr} {qc : Nat}, repF s r (k + 1) = (p.1 ++ [v.u], fl) → (v.a = x.a ∧ v.c = x.c) → v.u.data = x.u.data → agR v = .els encR Ty_api_Range 3 qa qc (missS x.u r.miss).1 → St (fun _ => False) [] w w' (.blk b0 Ty_api_Sender (encS s a c) :: .blk b1 Ty_api_Status [.int .i64 r.upto, .slice ma r.miss.length mc] :: .blk b2 Ty_api_Sender (encS .zero none 0) :: .blk b3 Ty_api_Sender (encS { s with units := p.1, failed := fl } la lc) :: .blk b4 Ty_api_Sender (encS s (some ⟨g, 0, none⟩) uc) :: .els encUP Ty_api_Unit 5 (some ⟨g, 0, none⟩) uc L :: .els encUP Ty_api_Unit 5 la lc O :: .blk b6 Ty_api_Unit (encUP v) :: .els encR Ty_api_Range 3 qa qc (missS x.u r.miss).1 :: (O.map agR ++ agR x :: (L.drop (k + 1)).map agR)) (DatR L) →
            ∃ (v : UP) (fl : Bool), repF s r (k + 1) = (p.1 ++ [v.u], fl) ∧ (v.a = x.a ∧ v.c = x.c) ∧ v.u.data = x.u.data ∧ St (fun _ => False) [] w w' (.blk b0 Ty_api_Sender (encS s a c) :: .blk b1 Ty_api_Status [.int .i64 r.upto, .slice ma r.miss.length mc] :: .blk b2 Ty_api_Sender (encS .zero none 0) :: .blk b3 Ty_api_Sender (encS { s with units := p.1, failed := fl } la lc) :: .blk b4 Ty_api_Sender (encS s (some ⟨g, 0, none⟩) uc) :: .els encUP Ty_api_Unit 5 (some ⟨g, 0, none⟩) uc L :: .els encUP Ty_api_Unit 5 la lc O :: .blk b6 Ty_api_Unit (encUP v) :: (O.map agR ++ ([agR v] ++ (L.drop (k + 1)).map agR))) (DatR L) := fun {w' v fl qa qc} h h1 h2 h3 H => by
          refine ⟨v, fl, h, h1, h2, ?_⟩
          have H1 := St.newIn (X := [_, _, _, _, _, _, _, _]) H
          rw [← List.append_assoc, show ∀ (A B : List Res) (y z : Res), A ++ y :: z :: B = (A ++ [y]) ++ z :: B from fun A B y z => by simp] at H1
          have H2 := St.skip H1
          rw [h3]
          simpa using H2
        refine H21.ld (i := 0) rfl rfl ?_
        refine H21.ld (i := 7) rfl rfl ?_
        refine (ref20_Place_ct hb).mono ?_ -- (.int .i64 s_0), (.int .i64 s_6), (.int .i64 x_04)
        rintro _ w22 ⟨rfl, hb22⟩; have H22 := H21.pass hb22; clear H21
        refine ⟨_, rfl, ?_⟩
        refine bsplit_dec (fun c6 => ?_) (fun c6 => ?_) --  (decide (r4 < r2))
        · rw [repStep, if_neg (by omega)] at hstep
          refine ⟨_, _, _, _, _, _, _, _, _, H22.cells (i := 7) rfl, ?_⟩
          refine ⟨_, _, _, _, H22.cells (i := 1) rfl, ?_⟩
          refine (ref20_missing_ct (u := x.u) (a1 := x.a) (c1 := x.c) (a2 := x.a2) (c2 := x.c2) (hM.belowE H22.below) hml).mono ?_
          rintro _ w23 ⟨qa, qc, rfl, K23⟩
          have H23 := H22.callR K23; clear H22
          have H23 := St.lastTo (X := [_, _, _, _, _, _, _, _]) H23
          simp only [List.cons_append, List.nil_append] at H23
          refine ⟨_, _, _, _, rfl, ?_⟩
          refine ⟨fun w24 => St (fun _ => False) [] w w24 (.blk b0 Ty_api_Sender (encS s a c) :: .blk b1 Ty_api_Status [.int .i64 r.upto, .slice ma r.miss.length mc] :: .blk b2 Ty_api_Sender (encS .zero none 0) :: .blk b3 Ty_api_Sender (encS { s with units := p.1, failed := p.2 } la lc) :: .blk b4 Ty_api_Sender (encS s (some ⟨g, 0, none⟩) uc) :: .els encUP Ty_api_Unit 5 (some ⟨g, 0, none⟩) uc L :: .els encUP Ty_api_Unit 5 la lc O :: .blk b6 Ty_api_Unit (encU x.u x.a x.c x.a2 x.c2) :: .els encR Ty_api_Range 3 qa qc (missS x.u r.miss).1 :: (O.map agR ++ agR x :: (L.drop (k + 1)).map agR)) (DatR L) ∧ ((missS x.u r.miss).2 = true ∨ ¬ wholeU x.u), ?_, ?_⟩
          · rintro _  w24 ⟨H24, hj4⟩
            refine bsplit_intro (fun c5 => ?_) (fun c5 => ?_) --  r5
            · rw [if_pos c5] at hstep
              refine H24.ldS (i := 7) rfl rfl ?_
              refine kLet_in ?_
              refine H24.set (i := 7) rfl (by show 4 < 5; decide) ?_; clear H24; intro w25 H25
              simp only [List.set_cons_succ, List.set_cons_zero] at H25
              obtain ⟨y, hy⟩ : ∃ y : UP, y = ⟨{ x.u with again := (missS x.u r.miss).1 }, x.a, x.c, qa, qc⟩ := ⟨_, rfl⟩
              have e6 : (encU x.u x.a x.c x.a2 x.c2).set 4 (.slice qa (missS x.u r.miss).1.length qc) = encUP y := by rw [hy]; rfl
              rw [e6] at H25
              have eqn : y.u = { x.u with again := (missS x.u r.miss).1 } := by rw [hy]
              have same : ∀ {w' : World}, repF s r (k + 1) = (p.1 ++ [{ x.u with again := (missS x.u r.miss).1 }], p.2) → St (fun _ => False) [] w w' (.blk b0 Ty_api_Sender (encS s a c) :: .blk b1 Ty_api_Status [.int .i64 r.upto, .slice ma r.miss.length mc] :: .blk b2 Ty_api_Sender (encS .zero none 0) :: .blk b3 Ty_api_Sender (encS { s with units := p.1, failed := p.2 } la lc) :: .blk b4 Ty_api_Sender (encS s (some ⟨g, 0, none⟩) uc) :: .els encUP Ty_api_Unit 5 (some ⟨g, 0, none⟩) uc L :: .els encUP Ty_api_Unit 5 la lc O :: .blk b6 Ty_api_Unit (encUP y) :: .els encR Ty_api_Range 3 qa qc (missS x.u r.miss).1 :: (O.map agR ++ agR x :: (L.drop (k + 1)).map agR)) (DatR L) → _ := fun {w'} h H =>
                new (w' := w') (v := y) (fl := p.2) (by rw [h, eqn]) (by rw [hy]; exact ⟨rfl, rfl⟩) (by rw [hy]) (by rw [hy]; rfl) H
              refine bsplit_dec (fun c4 => ?_) (fun c4 => ?_) --  (decide ((r_l : Int) > (0 : Int)))
              · refine bsplit_nd (fun c3 => ?_) (fun c3 => ?_)
                · rw [if_pos ⟨by omega, by omega⟩] at hstep
                  refine F_ref20_again_ok b3 0 b6 0 w25 ?_
                  unfold F_ref20_again
                  refine H25.drew ?_; clear H25; intro w26 H26
                  refine H26.ld (i := 7) (x := x.u.tries) rfl (by rw [hy]; rfl) ?_
                  refine H26.ld (i := 3) rfl rfl ?_
                  refine bsplit_dec (fun c9 => ?_) (fun c9 => ?_)
                  · rw [if_pos c9] at hstep
                    refine H26.set (i := 3) rfl (by show 0 + 12 < 13; decide) ?_; clear H26; intro w27 H27
                    simp only [List.set_cons_succ, List.set_cons_zero] at H27
                    exact ⟨rfl, new (v := y) (fl := true) (by rw [hstep, eqn]) (by rw [hy]; exact ⟨rfl, rfl⟩) (by rw [hy]) (by rw [hy]; rfl) H27⟩
                  · rw [if_neg c9] at hstep
                    refine H26.ld (i := 7) (x := x.u.tries) rfl (by rw [hy]; rfl) ?_
                    refine kW_i64 (by omega) ?_
                    refine H26.set (i := 7) rfl (by rw [hy]; show 0 + 3 < 5; decide) ?_; clear H26; intro w27 H27
                    simp only [List.set_cons_succ, List.set_cons_zero] at H27
                    obtain ⟨z, hz⟩ : ∃ z : UP, z = ⟨{ x.u with again := (missS x.u r.miss).1, tries := x.u.tries + 1 }, x.a, x.c, qa, qc⟩ := ⟨_, rfl⟩
                    have e7 : (encUP y).set (0 + 3) (.int .i64 (x.u.tries + 1)) = encUP z := by rw [hy, hz]; rfl
                    rw [e7] at H27
                    exact ⟨rfl, new (v := z) (fl := p.2) (by rw [hstep, hz]) (by rw [hz]; exact ⟨rfl, rfl⟩) (by rw [hz]) (by rw [hz]; rfl) H27⟩
                · rw [if_neg (by omega)] at hstep
                  exact same hstep H25
              · rw [if_neg (by omega)] at hstep
                exact same hstep H25
            · rw [if_neg (by rw [c5]; decide)] at hstep
              have hnw : ¬ wholeU x.u := by
                rcases hj4 with h | h
                · rw [c5] at h; cases h
                · exact h
              rw [if_neg hnw] at hstep
              exact keep hstep (St.skip (X := [_, _, _, _, _, _, _, _]) H24)
          · refine bsplit_n (fun c2 => ?_) (fun c2 => ?_) --  (!r5)
            · rw [if_neg (by rw [c2]; decide)] at hstep
              refine H23.ld (i := 7) rfl rfl ?_
              refine H23.ldS (i := 7) rfl rfl ?_
              refine bsplit_dec (fun c1 => ?_) (fun c1 => ?_) --  (decide (x_23 = (x_1_l1 : Int)))
              · rw [if_pos (show wholeU x.u from c1)] at hstep
                refine kW_i64 (by omega) ?_ -- i + (1 : Int)
                have H26 := St.skip (X := [_, _, _, _, _, _, _, _]) H23
                have H27 := St.skip (X := [_, _, _, _, _, _, _]) H26
                simp only [List.cons_append, List.nil_append] at H27
                have H28 := St.skip (X := ((.blk b0 Ty_api_Sender (encS s a c) :: .blk b1 Ty_api_Status [.int .i64 r.upto, .slice ma r.miss.length mc] :: .blk b2 Ty_api_Sender (encS .zero none 0) :: .blk b3 Ty_api_Sender (encS { s with units := p.1, failed := p.2 } la lc) :: .blk b4 Ty_api_Sender (encS s (some ⟨g, 0, none⟩) uc) :: .els encUP Ty_api_Unit 5 (some ⟨g, 0, none⟩) uc L :: .els encUP Ty_api_Unit 5 la lc O :: O.map agR) : List Res)) H27
                refine ⟨⟨k + 1, O, la, lc, by omega, by omega, by rw [hstep]; exact hO, hF, ?_⟩, by first | omega | (dsimp only; omega)⟩
                rw [hstep]; simpa using H28
              · exact ⟨H23, .inr c1⟩
            · exact ⟨H23, .inl c2⟩
        · rw [repStep, if_pos (by omega)] at hstep
          exact keep hstep H22
    · obtain rfl : k = s.units.length := by omega
      have hfull : repF s r s.units.length = s.units.foldl (repStep s (s.place r.upto) r.miss) ([], false) := by rw [repF, List.take_length]
      obtain ⟨p, hp⟩ : ∃ p, p = repF s r s.units.length := ⟨_, rfl⟩
      rw [← hp] at hO H19 hfull hOn
      rw [List.drop_of_length_le (by omega), List.map_nil, List.append_nil] at H19
      obtain ⟨t, ht⟩ : ∃ t : Sd, t = { s with poll := if s.poll ≠ -1 ∧ s.place s.poll < s.place r.upto then -1 else s.poll, left := if s.poll ≠ -1 ∧ s.place s.poll < s.place r.upto then 0 else s.left } := ⟨_, rfl⟩
      have hT : repT s r = { t with units := p.1, failed := p.2, first := (match p.1 with | u :: _ => u.sn | [] => s.next) } := by rw [ht, hfull]; rfl
      have hpo := okB_poll hok
      refine ⟨fun w34 => St (fun _ => False) [] w w34 (.blk b0 Ty_api_Sender (encS s a c) :: .blk b1 Ty_api_Status [.int .i64 r.upto, .slice ma r.miss.length mc] :: .blk b2 Ty_api_Sender (encS .zero none 0) :: .blk b3 Ty_api_Sender (encS { t with units := p.1, failed := p.2 } la lc) :: .blk b4 Ty_api_Sender (encS s ua uc) :: .els encUP Ty_api_Unit 5 ua uc L :: .els encUP Ty_api_Unit 5 la lc O :: O.map agR) (DatR L), ?_, ?_⟩
      · rintro _  w34 H34
        refine H34.ld (i := 0) rfl rfl ?_
        refine H34.set (i := 3) rfl (by show 6 < 13; decide) ?_; clear H34; intro w33 H33
        simp only [List.set_cons_succ, List.set_cons_zero] at H33
        have fin : ∀ {w' : World} {x : Sd}, repT s r = x → O.map (·.u) = x.units → St (fun _ => False) [] w w' (.blk b0 Ty_api_Sender (encS s a c) :: .blk b1 Ty_api_Status [.int .i64 r.upto, .slice ma r.miss.length mc] :: .blk b2 Ty_api_Sender (encS .zero none 0) :: .blk b3 Ty_api_Sender (encS x la lc) :: .blk b4 Ty_api_Sender (encS s ua uc) :: .els encUP Ty_api_Unit 5 ua uc L :: .els encUP Ty_api_Unit 5 la lc O :: O.map agR) (DatR L) →
            sxStore w' ⟨b2, 0, none⟩ 0 (encS x la lc) fun w4 =>
              ∃ r_0 r_1 r_2 r_3 r_4 r_5 r_6 r_7 : Int, ∃ r_8_a : Option Addr, ∃ r_8_l r_8_c : Nat, ∃ r_9 r_10 r_11 : Int, ∃ r_12 : Bool,
                cellsAt w4 ⟨b2, 0, none⟩ 0 [(.int .i64 r_0), (.int .i64 r_1), (.int .i64 r_2), (.int .i64 r_3), (.int .i64 r_4), (.int .i64 r_5), (.int .i64 r_6), (.int .i64 r_7), (.slice r_8_a r_8_l r_8_c), (.int .i64 r_9), (.int .i64 r_10), (.int .i64 r_11), (.bool r_12)] ∧
                RetO w (repT s r) 0 (.returned (.tuple #[(.agg #[.int .i64 r_0, .int .i64 r_1, .int .i64 r_2, .int .i64 r_3, .int .i64 r_4, .int .i64 r_5, .int .i64 r_6, .int .i64 r_7, .slice r_8_a r_8_l r_8_c, .int .i64 r_9, .int .i64 r_10, .int .i64 r_11, .bool r_12]), (.int .i64 0)])) w4 := fun {w' x} hx hu H => by
          rw [hx]
          exact retS (x := x) (a := la) (c := lc) (L := O) (i := 2) H rfl rfl hu fun w4 H4 => (H4.sub (fun i => i + 6) (fun i r hi => hi) (fun i j _ _ h => by omega)).imp fun w h => fromL_dat hF h
        refine H33.ldS (i := 3) rfl rfl ?_
        refine bsplit_dec (fun c9 => ?_) (fun c9 => ?_) --  (decide ((left_l : Int) > (0 : Int)))
        · have c9' : 0 < O.length := by rw [hOn]; have : (0 : Int) < (p.1.length : Int) := c9; omega
          obtain ⟨g', hg', _, _⟩ := H33.rowSome (i := 6) rfl c9'
          subst hg'
          refine H33.ldS (i := 3) rfl rfl ?_
          refine kIx_at ⟨by omega, c9⟩ ?_
          have c0 := H33.cellEl encUP_ok (i := 6) rfl c9' (j := 0) (v := .int .i64 O[0].u.sn) (by decide) rfl
          refine ⟨_, by rw [show ((0 : Int).toNat * 5) = 0 from rfl, add_mk]; exact c0, ?_⟩
          refine H33.set (i := 3) rfl (by show 6 < 13; decide) ?_; clear H33; intro w34 H34
          simp only [List.set_cons_succ, List.set_cons_zero] at H34
          obtain ⟨x, hx⟩ : ∃ x : Sd, x = { t with units := p.1, failed := p.2, first := O[0].u.sn } := ⟨_, rfl⟩
          have hTx : repT s r = x := by
            rw [hT, hx]
            have : p.1 = O[0].u :: (O.drop 1).map (·.u) := by rw [← hO, ← List.map_cons (f := fun y : UP => y.u), ← List.drop_eq_getElem_cons c9']; rfl
            rw [this]
          have e : (((encS { t with units := p.1, failed := p.2 } (some ⟨g', 0, none⟩) lc).set 6 (.int .i64 s.next)).set 6 (.int .i64 O[0].u.sn)) = encS x (some ⟨g', 0, none⟩) lc := by
            rw [hx]; rfl
          rw [e] at H34
          refine ⟨_, _, _, _, _, _, _, _, _, _, _, _, _, _, _, H34.cells (i := 3) rfl, ?_⟩
          exact fin hTx (by rw [hx]; exact hO) H34
        · have h0 : p.1.length = 0 := by have : ¬ (0 : Int) < (p.1.length : Int) := c9; omega
          obtain ⟨x, hx⟩ : ∃ x : Sd, x = { t with units := p.1, failed := p.2, first := s.next } := ⟨_, rfl⟩
          have hTx : repT s r = x := by
            rw [hT, hx, List.eq_nil_of_length_eq_zero h0]
          have e : ((encS { t with units := p.1, failed := p.2 } la lc).set 6 (.int .i64 s.next)) = encS x la lc := by
            rw [hx]; rfl
          rw [e] at H33
          refine ⟨_, _, _, _, _, _, _, _, _, _, _, _, _, _, _, H33.cells (i := 3) rfl, ?_⟩
          exact fin hTx (by rw [hx]; exact hO) H33
      · refine H19.ld (i := 0) rfl rfl ?_
        refine bsplit_dec (fun c8 => ?_) (fun c8 => ?_) --  (decide (s_10 ≥ (0 : Int)))
        · refine H19.ld (i := 0) rfl rfl ?_
          refine H19.ld (i := 0) rfl rfl ?_
          refine (ref20_Place_ct hb).mono ?_ -- (.int .i64 s_0), (.int .i64 s_6), (.int .i64 s_10)
          rintro _ w31 ⟨rfl, hb31⟩; have H31 := H19.pass hb31; clear H19
          refine ⟨_, rfl, ?_⟩
          refine bsplit_dec (fun c7 => ?_) (fun c7 => ?_) --  (decide (r6 < r2))
          · refine H31.set (i := 3) rfl (by show 10 < 13; decide) ?_; clear H31; intro w32 H32
            simp only [List.set_cons_succ, List.set_cons_zero] at H32
            refine H32.set (i := 3) rfl (by show 11 < 13; decide) ?_; clear H32; intro w33 H33
            simp only [List.set_cons_succ, List.set_cons_zero] at H33
            rw [ht, if_pos ⟨hpo.2 c8, c7⟩, if_pos ⟨hpo.2 c8, c7⟩]; exact H33
          · rw [ht, if_neg (fun h => c7 h.2), if_neg (fun h => c7 h.2)]; exact H31
        · rw [ht, if_neg (fun h => c8 (hpo.1 h.1)), if_neg (fun h => c8 (hpo.1 h.1))]; exact H19
  · refine ⟨_, _, _, _, _, _, _, _, _, _, _, _, _, _, _, H3.cells (i := 0) rfl, ?_⟩
    refine (ref20_Valid_ct (unR_below hu H3.below) hl).mono ?_
    rintro _ w4 ⟨rfl, hb4⟩; have H4 := H3.pass hb4; clear H3
    refine ⟨_, rfl, ?_⟩
    refine bsplit_n (fun c => ?_) (fun c => ?_) --  (!r)
    · exact ⟨H4, iff_of_true rfl (.inl c)⟩
    · refine H4.ld (i := 0) rfl rfl ?_
      refine ⟨_, _, _, _, H4.cells (i := 1) rfl, ?_⟩
      refine (ref19_Valid_ct (hM.belowE H4.below) (by omega)).mono ?_
      rintro _ w5 ⟨rfl, hb5⟩; have H5 := H4.pass hb5; clear H4
      refine ⟨_, rfl, ?_⟩
      refine ⟨H5, ?_⟩
      rw [← decide_not, decide_eq_true_iff]
      exact ⟨fun h => .inr h, fun h => by
        rcases h with h | h
        · rw [c] at h; cases h
        · exact h⟩
end Go.Proofs.Ytmhggobilcmdmaa
namespace Go.Proofs.Ytmhggobilcmdmaa
open Go.Sx Go.RowKit
set_option maxRecDepth 100000
theorem law20_link_ct {w : World} :
    Calls Try.prog N_law20_link #[] w fun e w' => e = .returned (.agg #[.int .i64 5, .int .i64 4, .int .i64 3, .int .i64 3, .int .i64 0, .int .i64 4]) ∧ Below w.heap.size w w' := by
  apply F_law20_link_ok
  unfold F_law20_link
  have H := St.nil w
  refine H.alloc ?_; clear H; intro b w1 H1
  refine H1.store (i := 0) rfl (by rfl) (by rfl) ?_; clear H1; intro w2 H2
  refine ⟨_, _, _, _, _, _, H2.cells (i := 0) rfl, ?_⟩
  exact ⟨rfl, H2.below⟩
theorem eqP_link {x y : Operand} {l : Lk} {F : Bool → Prop} (h : F false) : EqP Try.prog .neq Ty_api_Link x y (.agg #[.int .i64 l.bits, .int .i64 l.every, .int .i64 l.poll, .int .i64 l.wait, .int .i64 l.quiet, .int .i64 l.tries]) (.agg #[.int .i64 l.bits, .int .i64 l.every, .int .i64 l.poll, .int .i64 l.wait, .int .i64 l.quiet, .int .i64 l.tries]) F := by
  refine eqP_ints (k' := .i64) (e := Ty_int) (xs := [l.bits, l.every, l.poll, l.wait, l.quiet, l.tries]) (ys := [l.bits, l.every, l.poll, l.wait, l.quiet, l.tries]) (by kernel_rfl) (by kernel_rfl) (by kernel_rfl) (by kernel_rfl) (by kernel_rfl) (by kernel_rfl) rfl ?_
  rw [decide_eq_true rfl]; exact h
def fillB (seed : Int) (n : Nat) : List Int := (List.range n).map fun i : Nat => (seed + 7 * (i : Int) + (i : Int) / 16) % 256
theorem fillB_len (seed : Int) (n : Nat) : (fillB seed n).length = n := by simp [fillB]
theorem fillB_succ (seed : Int) (n : Nat) : fillB seed (n + 1) = fillB seed n ++ [(seed + 7 * (n : Int) + (n : Int) / 16) % 256] := by simp [fillB, List.range_succ]
theorem fillB_bytes (seed : Int) (n : Nat) : Bytes (fillB seed n) := fun i hi => by simp [fillB]; omega
theorem made_Filled_ct {n : Nat} {seed : Int} {w : World} (hn : n ≤ 100000) (hs : 0 ≤ seed ∧ seed ≤ 1000) :
    Calls Try.prog N_made_Filled #[(.int .i64 n), (.int .i64 seed)] w fun e w' => ∃ a c, e = .returned (.slice a n c) ∧ FreshR w w' [.ints Ty_uint8 .u8 a c (fillB seed n)] := by
  apply F_made_Filled_ok
  unfold F_made_Filled
  have H := (St.nil w).nilI Ty_uint8 .u8
  refine ⟨fun b_a b_l b_c i => ((n - i).toNat, fun w1 => ∃ k : Nat, i = k ∧ k ≤ n ∧ b_l = (fillB seed k).length ∧ FreshR w w1 [.ints Ty_uint8 .u8 b_a b_c (fillB seed k)]), ⟨0, rfl, by omega, rfl, H⟩, ?_⟩
  clear H
  rintro _ b_a b_l b_c i w1 ⟨k, rfl, hk, rfl, H1⟩
  refine bsplit_dec (fun c => ?_) (fun c => ?_) --  (decide (i < n))
  · refine kW_i64 (by omega) ?_ -- (7 : Int) * i
    refine kW_i64 (by omega) ?_ -- seed + ((7 : Int) * i)
    have e16 : Int.tdiv (k : Int) 16 = (k : Int) / 16 := Int.tdiv_eq_ediv_of_nonneg (by omega)
    rw [e16]
    refine kW_i64 (by omega) ?_ -- Int.tdiv i (16 : Int)
    refine kW_i64 (by omega) ?_ -- (seed + ((7 : Int) * i)) + (Int.tdiv i (16 : Int))
    refine kWu8 ?_
    refine H1.alloc ?_; clear H1; intro b w2 H2
    have hl := fillB_len seed k
    refine H2.appIB (i := 0) (j := 1) rfl [(seed + 7 * (k : Int) + (k : Int) / 16) % 256] rfl sl_Ty_S_uint8 rfl (by rw [hl]; simp; omega) (by rw [hl]; simp; omega) ?_
    intro x_a x_c w3 H3
    rw [← fillB_succ] at H3 ⊢
    refine kW_i64 (by omega) ?_ -- i + (1 : Int)
    refine ⟨⟨k + 1, by omega, by omega, rfl, H3.sub (R' := [_]) id (fun i r hi => by
      rcases i with _ | i
      · exact hi
      · simp at hi) (fun i j _ _ h => h)⟩, by first | omega | (dsimp only; omega)⟩
  · obtain rfl : k = n := by omega
    rw [fillB_len]
    exact ⟨_, _, rfl, H1⟩
end Go.Proofs.Ytmhggobilcmdmaa
/- Chapter 20, plain: what Build does; no program in sight. -/
namespace Go.Sx
def pieceU (u : Un) : Pc := ⟨u.sn, partOf (decide ((partU u).f = 0)) (decide ((partU u).t = u.data.length)), 0, (partU u).f, (u.data.take (partU u).t.toNat).drop (partU u).f.toNat⟩
def takeU (u : Un) (n : Int) : Un := match u.again with
  | [] => { u with sent := u.sent + n }
  | r :: l => if r.f + n = r.t then { u with again := l } else { u with again := ⟨r.sn, r.f + n, r.t⟩ :: l }
def lastSn (L : List Un) (d : Int) : Int := L.foldl (fun q u => if 0 < u.sent then u.sn else q) d
def askS (s : Sd) : Sd := { s with pieces := 0, left := s.lk.poll, poll := lastSn s.units s.poll }
def buildT (s : Sd) (k : Nat) (u : Un) (q : Pc) : Sd × List Int × Int :=
  let s1 : Sd := { s with units := s.units.set k (takeU u q.data.length), pieces := s.pieces + 1 }
  if s1.pieces = s.lk.every ∨ leftI s1.units < 0 then (askS s1, (encP s.lk.bits { q with poll := 1 }).1, 0) else (s1, (encP s.lk.bits q).1, 0)
def buildS (s : Sd) (size : Int) (E0 : Int) : Sd × List Int × Int :=
  if E0 ≠ 0 then (.zero, [], E0) else if ¬ (0 ≤ size ∧ size ≤ 4096) then (.zero, [], 3)
  else if leftI s.units < 0 then (.zero, [], 14) else match s.units[(leftI s.units).toNat]? with
    | none => (.zero, [], 14)
    | some u => if (cutP s.lk.bits (pieceU u) size).2.2 ≠ 0 then (.zero, [], (cutP s.lk.bits (pieceU u) size).2.2) else buildT s (leftI s.units).toNat u (cutP s.lk.bits (pieceU u) size).1
/-- what is sent next of a valid unit lies within its bytes, and is not empty -/
theorem partU_in {l : Lk} {u : Un} (h : unB l u = true) (hl : askU u = true ∨ restU u = true) : 0 ≤ (partU u).f ∧ (partU u).f < (partU u).t ∧ (partU u).t ≤ u.data.length := by
  unfold unB at h
  simp only [Bool.and_eq_true, decide_eq_true_eq, Bool.not_eq_true'] at h
  obtain ⟨⟨hn, h1⟩, h2⟩ := h
  obtain ⟨_, h3, h4, _⟩ := hn
  unfold partU
  cases ha : u.again with
  | nil =>
    have : restU u = true := by
      rcases hl with h | h
      · unfold askU at h; rw [ha] at h; simp at h
      · exact h
    have hw : ¬ wholeU u := by
      unfold restU at this
      simpa using this
    unfold wholeU at hw
    dsimp only
    omega
  | cons r t =>
    rw [ha] at h1 h2
    simp only [normB, Bool.and_eq_true, decide_eq_true_eq] at h1
    have := List.any_eq_false.1 h2 r (by simp)
    simp only [offR, decide_eq_true_eq] at this
    dsimp only
    omega
/-- a cut's first piece is valid -/
theorem cut_ok {b : Int} {p : Pc} {size : Int} (h : (cutP b p size).2.2 = 0) : (cutP b p size).1.ok b ∧ (cutP b p size).1.poll = p.poll := by
  unfold cutP at h ⊢
  split at h
  · exact absurd h (by decide)
  · rename_i hp
    rw [if_neg hp]
    have hp := Decidable.not_not.1 hp
    split at h
    · exact absurd h (by decide)
    · rename_i hs
      rw [if_neg hs]
      split
      · exact ⟨hp, rfl⟩
      · rename_i hlt
        refine ⟨?_, rfl⟩
        obtain ⟨h1, h2, h3, h4, h5, h6, h7, h8⟩ := hp
        have hlen : (p.data.take (size - headN p.part).toNat).length = (size - headN p.part).toNat := by rw [List.length_take]; omega
        refine ⟨h1, h2, ?_, h4, ?_, h6, ?_, ?_⟩
        · unfold partOf begins; split <;> simp
        · unfold partOf begins
          by_cases hb : p.part = 0 ∨ p.part = 1
          · simp [hb, h5.1 hb]
          · simp only [decide_eq_false hb]
            have : ¬ p.off = 0 := fun e => hb (h5.2 e)
            simp [this]
        · dsimp only; rw [hlen]; omega
        · dsimp only; rw [hlen]; omega
end Go.Sx
namespace Go.Proofs.Ytmhggobilcmdmaa
open Go.Sx Go.RowKit
set_option maxRecDepth 100000
theorem unC_at {w : World} {p : Addr} {u : Un} {a : Option Addr} {c : Nat} {a2 : Option Addr} {c2 : Nat} (h : cellsAt w p 0 (encU u a c a2 c2)) (j : Nat) {v : Value} (hv : (encU u a c a2 c2)[j]? = some v) : w.cell? (p.add j) = some v := by
  have := cellsAt_get h j _ hv; rwa [Nat.zero_add] at this
/-- two senders that are the same -/
theorem ref20_Same_ct {s : Sd} {a a' : Option Addr} {c c' : Nat} {w : World} (hu : UnR w a s.units) (hu' : UnR w a' s.units) (hl : SmU s.units) (hby : ∀ u ∈ s.units, Bytes u.data) :
    Calls Try.prog N_ref20_Same #[aggS s a c, aggS s a' c'] w fun e w' => e = .returned (.bool true) ∧ Below w.heap.size w w' := by
  apply F_ref20_Same_ok
  unfold F_ref20_Same
  have H := St.nil w
  obtain ⟨hl0, hl1⟩ := hl
  refine H.alloc ?_; clear H; intro b w1 H1
  refine H1.alloc ?_; clear H1; intro b1 w2 H2
  simp only [List.cons_append, List.nil_append] at H2
  replace H2 : St (fun _ => False) [] w w2 [.blk b Ty_api_Sender (encS s a c), .blk b1 Ty_api_Sender (encS s a' c')] (fun _ => True) := H2
  refine ⟨fun x12 w3 => St (fun _ => False) [] w w3 [.blk b Ty_api_Sender (encS s a c), .blk b1 Ty_api_Sender (encS s a' c')] (fun _ => True) ∧ x12 = false, ?_, ?_⟩
  · rintro _ x12 w3 ⟨H3, rfl⟩
    refine bsplit_intro (fun c13 => by cases c13) (fun _ => ?_)
    refine ⟨fun i => ((s.units.length - i).toNat, fun w4 => ∃ k : Nat, i = k ∧ k ≤ s.units.length ∧ St (fun _ => False) [] w w4 [.blk b Ty_api_Sender (encS s a c), .blk b1 Ty_api_Sender (encS s a' c')] (fun _ => True)), ⟨0, rfl, by omega, H3⟩, ?_⟩
    clear H3
    rintro _ i w4 ⟨k, rfl, hk, H4⟩
    refine H4.ldS (i := 0) rfl rfl ?_
    refine bsplit_dec (fun c12 => ?_) (fun c12 => ⟨rfl, H4.below⟩)
    have hlt : k < s.units.length := by omega
    obtain ⟨u, hue⟩ : ∃ u, u = s.units[k] := ⟨_, rfl⟩
    have hmu : u ∈ s.units := by rw [hue]; exact List.getElem_mem _
    refine ⟨fun x13 y w14 => St (fun _ => False) [] w w14 [.blk b Ty_api_Sender (encS s a c), .blk b1 Ty_api_Sender (encS s a' c')] (fun _ => True) ∧ UnC w14 x13 u ∧ UnC w14 y u, ?_, ?_⟩
    · rintro _ x13 y w14 ⟨H14, hx, hy⟩
      obtain ⟨xa, xc, xa2, xc2, hx, hxd, hxr⟩ := hx
      obtain ⟨ya, yc, ya2, yc2, hy, hyd, hyr⟩ := hy
      refine ⟨fun x20 w17 => St (fun _ => False) [] w w17 [.blk b Ty_api_Sender (encS s a c), .blk b1 Ty_api_Sender (encS s a' c')] (fun _ => True) ∧ x20 = false, ?_, ?_⟩
      · rintro _ x20 w17 ⟨H17, rfl⟩
        refine bsplit_intro (fun c => by cases c) (fun _ => ?_)
        refine kW_i64 (by omega) ?_
        exact ⟨⟨k + 1, by omega, by omega, H17⟩, by dsimp only; omega⟩
      · refine ⟨_, unC_at hx 0 rfl, ?_⟩
        refine ⟨_, unC_at hy 0 rfl, ?_⟩
        refine bsplit_nd (fun h => absurd rfl h) (fun _ => ?_)
        refine ⟨_, unC_at hx 2 rfl, ?_⟩
        refine ⟨_, unC_at hy 2 rfl, ?_⟩
        refine bsplit_nd (fun h => absurd rfl h) (fun _ => ?_)
        refine ⟨_, unC_at hx 3 rfl, ?_⟩
        refine ⟨_, unC_at hy 3 rfl, ?_⟩
        refine bsplit_nd (fun h => absurd rfl h) (fun _ => ?_)
        refine ⟨_, _, _, unC_at hx 1 rfl, ?_⟩
        refine ⟨_, _, _, unC_at hy 1 rfl, ?_⟩
        refine (same_bytes hxd hyd (hby u hmu) (hby u hmu)).mono ?_
        rintro _ w15 ⟨rfl, hb15⟩; have H15 := H14.pass hb15
        refine ⟨_, rfl, ?_⟩
        refine bsplit_nd (fun h => absurd rfl h) (fun _ => ?_)
        refine ⟨_, _, _, unC_at (cells_below hx hb15) 4 rfl, ?_⟩
        refine ⟨_, _, _, unC_at (cells_below hy hb15) 4 rfl, ?_⟩
        refine (ref18_SameRanges_ct (hxr.belowE hb15) (hyr.belowE hb15) (hl1 u hmu).1).mono ?_
        rintro _ w16 ⟨rfl, hb16⟩
        refine ⟨_, rfl, ?_⟩
        exact ⟨H15.pass hb16, by simp⟩
    · refine H4.drew ?_; clear H4; intro w5 H5
      have hu5 := unR_below hu H5.below
      have hu5' := unR_below hu' H5.below
      refine ⟨(· < w5.heap.size), ?_⟩
      refine ⟨H5.lt (i := 0) rfl rfl, ?_⟩
      refine H5.ldS (i := 0) rfl rfl ?_
      refine ixU hu5 k rfl hlt fun b2 hb2 => ?_
      rw [← hue] at hb2
      obtain ⟨xa, xc, xa2, xc2, hx, hxd, hxr⟩ := hb2
      refine ⟨cell_lt (unC_at hx 0 rfl), ?_⟩
      refine ⟨_, _, _, _, _, _, _, _, _, hx, ?_⟩
      refine ⟨H5.lt (i := 1) rfl rfl, ?_⟩
      refine H5.ldS (i := 1) rfl rfl ?_
      refine ixU hu5' k rfl hlt fun b3 hb3 => ?_
      rw [← hue] at hb3
      obtain ⟨ya, yc, ya2, yc2, hy, hyd, hyr⟩ := hb3
      refine ⟨cell_lt (unC_at hy 0 rfl), ?_⟩
      refine ⟨_, _, _, _, _, _, _, _, _, hy, ?_⟩
      refine ⟨?_, ?_, trivial⟩
      · have L := St.nil w5
        refine L.alloc ?_; clear L; intro b6 w10 L10
        refine ⟨L10.below.keeps, ?_⟩
        refine L10.alloc ?_; clear L10; intro b7 w11 L11
        refine ⟨L11.below.keeps, ?_⟩
        simp only [List.cons_append, List.nil_append] at L11
        refine L11.store (i := 0) rfl (by rfl) (by rfl) ?_; clear L11; intro w12 L12
        refine ⟨L12.below.keeps, ?_⟩
        simp only [List.set_cons_zero] at L12
        refine L12.store (i := 1) rfl (by rfl) (by rfl) ?_; clear L12; intro w13 L13
        simp only [List.set_cons_succ, List.set_cons_zero] at L13
        exact ⟨H5.pass L13.below, ⟨xa, xc, xa2, xc2, L13.cells (i := 0) rfl, hxd.below L13.below, hxr.belowE L13.below⟩, ⟨ya, yc, ya2, yc2, L13.cells (i := 1) rfl, hyd.below L13.below, hyr.belowE L13.below⟩⟩
      · have L := St.nil w5
        refine L.alloc ?_; clear L; intro b6 w10 L10
        refine ⟨L10.below.keeps, ?_⟩
        refine L10.alloc ?_; clear L10; intro b7 w11 L11
        refine ⟨L11.below.keeps, ?_⟩
        simp only [List.cons_append, List.nil_append] at L11
        refine L11.store (i := 1) rfl (by rfl) (by rfl) ?_; clear L11; intro w12 L12
        refine ⟨L12.below.keeps, ?_⟩
        simp only [List.set_cons_succ, List.set_cons_zero] at L12
        refine L12.store (i := 0) rfl (by rfl) (by rfl) ?_; clear L12; intro w13 L13
        simp only [List.set_cons_succ, List.set_cons_zero] at L13
        exact ⟨H5.pass L13.below, ⟨xa, xc, xa2, xc2, L13.cells (i := 1) rfl, hxd.below L13.below, hxr.belowE L13.below⟩, ⟨ya, yc, ya2, yc2, L13.cells (i := 0) rfl, hyd.below L13.below, hyr.belowE L13.below⟩⟩
  · refine ⟨_, _, _, _, _, _, H2.cellsAt (i := 0) rfl (by rfl), ?_⟩
    refine ⟨_, _, _, _, _, _, H2.cellsAt (i := 1) rfl (by rfl), ?_⟩
    refine eqP_link ?_
    refine bsplit_intro (fun h => by cases h) (fun _ => ?_)
    refine H2.ld (i := 0) rfl rfl ?_
    refine H2.ld (i := 1) rfl rfl ?_
    refine bsplit_nd (fun h => absurd rfl h) (fun _ => ?_)
    refine H2.ld (i := 0) rfl rfl ?_
    refine H2.ld (i := 1) rfl rfl ?_
    refine bsplit_nd (fun h => absurd rfl h) (fun _ => ?_)
    refine H2.ld (i := 0) rfl rfl ?_
    refine H2.ld (i := 1) rfl rfl ?_
    refine bsplit_nd (fun h => absurd rfl h) (fun _ => ?_)
    refine H2.ld (i := 0) rfl rfl ?_
    refine H2.ld (i := 1) rfl rfl ?_
    refine bsplit_nd (fun h => absurd rfl h) (fun _ => ?_)
    refine H2.ld (i := 0) rfl rfl ?_
    refine H2.ld (i := 1) rfl rfl ?_
    refine bsplit_nd (fun h => absurd rfl h) (fun _ => ?_)
    refine H2.ldB (i := 0) rfl rfl ?_
    refine H2.ldB (i := 1) rfl rfl ?_
    refine bsplit_n (fun h => by simp at h) (fun _ => ?_)
    refine H2.ldS (i := 0) rfl rfl ?_
    refine H2.ldS (i := 1) rfl rfl ?_
    exact ⟨H2, by simp⟩
end Go.Proofs.Ytmhggobilcmdmaa
namespace Go.Sx
theorem leftI_unit {L : List Un} {k : Nat} (hk : k < L.length) (h : leftI L = k) : askU L[k] = true ∨ restU L[k] = true := by
  unfold leftI at h
  split at h
  · rename_i h1
    obtain ⟨j, hj, e, hp⟩ := idx_some h1
    have : j = k := by omega
    subst this; exact .inl hp
  · obtain ⟨j, hj, e, hp⟩ := idx_some (p := restU) (l := L) (by omega)
    have : j = k := by omega
    subst this; exact .inr hp
theorem okB_pieces {s : Sd} (h : s.okB = true) : 0 ≤ s.pieces ∧ s.pieces ≤ s.lk.every - 1 := by
  unfold Sd.okB at h
  simp only [Bool.and_eq_true, decide_eq_true_eq] at h
  exact h.1.2
theorem lastSn_step {L : List Un} {j : Nat} {d : Int} (h : j < L.length) : lastSn (L.take (j + 1)) d = if 0 < L[j].sent then L[j].sn else lastSn (L.take j) d := by
  rw [List.take_succ_eq_append_getElem h, lastSn, List.foldl_append]; rfl
theorem cut_len (b : Int) (p : Pc) (size : Int) : (cutP b p size).1.data.length ≤ p.data.length := by
  unfold cutP
  split
  · simp [Pc.zero]
  · split
    · simp [Pc.zero]
    · split
      · exact Nat.le_refl _
      · dsimp only; rw [List.length_take]; omega
theorem takeU_sent {u : Un} {n : Int} (h : u.again = [] → u.sent + n ≤ u.data.length) (hs : u.sent ≤ u.data.length) : (takeU u n).sent ≤ (takeU u n).data.length := by
  unfold takeU
  cases ha : u.again with
  | nil => exact h ha
  | cons r l => dsimp only; split <;> exact hs
end Go.Sx
namespace Go.Proofs.Ytmhggobilcmdmaa
open Go.Sx Go.RowKit
set_option maxRecDepth 100000
def encPc (p : Pc) (a : Option Addr) (c : Nat) : List Value := [.int .i64 p.sn, .int .i64 p.part, .int .i64 p.poll, .int .i64 p.off, .slice a p.data.length c]
/-- a sender that can be read, bytes, an error -/
def RetW (w : World) (x : Sd) (bs : List Int) (E : Int) (e : Ending) (w' : World) : Prop :=
  ∃ a c ba bc, bs.length ≤ bc ∧ e = .returned (.tuple #[aggS x a c, .slice ba bs.length bc, .int .i64 E]) ∧ Fresh w w' fun w => UnR w a x.units ∧ SlR (IntC .u8) 1 w ba bs
/-- the row in which a unit's ranges lie: some of them may lie in front of what the unit still has -/
structure DP where
  a0 : Option Addr
  c0 : Nat
  all : List Rg
def resD (y : DP) : Res := .els encR Ty_api_Range 3 y.a0 y.c0 y.all
def toD (x : UP) : DP := ⟨x.a2, x.c2, x.u.again⟩
def OwnD (x : UP) (y : DP) : Prop := ∃ n, n ≤ 1 ∧ n ≤ y.all.length ∧ x.u.again = y.all.drop n ∧ x.a2 = slAddr y.c0 n 3 y.a0 ∧ x.c2 = y.c0 - n
def OwnDs (L : List UP) (D : List DP) : Prop := D.length = L.length ∧ ∀ i (h : i < L.length) (h' : i < D.length), OwnD L[i] D[i]
theorem slAddr0 (c sz : Nat) (a : Option Addr) : slAddr c 0 sz a = a := by
  unfold slAddr
  split
  · rfl
  · cases a <;> simp [add_zero]
theorem ownD0 (x : UP) : OwnD x (toD x) := ⟨0, Nat.zero_le _, Nat.zero_le _, rfl, by rw [slAddr0]; rfl, rfl⟩
theorem ownDs0 (L : List UP) : OwnDs L (L.map toD) := ⟨by simp, fun i h h' => by rw [List.getElem_map]; exact ownD0 _⟩
theorem ownDs_set {L : List UP} {D : List DP} (h : OwnDs L D) {k : Nat} {x : UP} {y : DP} (hxy : OwnD x y) : OwnDs (L.set k x) (D.set k y) := by
  refine ⟨by simp [h.1], fun i h1 h2 => ?_⟩
  simp only [List.length_set] at h1 h2
  simp only [List.getElem_set]
  split
  · exact hxy
  · exact h.2 i h1 h2
/-- the rows of ranges are handed on -/
theorem shareD {A0 : Nat → Prop} {w0 w : World} : ∀ {L : List UP} {D : List DP} {R : List Res} {P : World → Prop}, OwnDs L D → St A0 [] w0 w (R ++ D.map resD) P → St A0 [] w0 w R fun w => RngR L w ∧ P w
  | [], D, R, P, hO, H => by
    obtain rfl : D = [] := List.eq_nil_of_length_eq_zero hO.1
    have := H.imp (Q := fun w => RngR [] w ∧ P w) fun _ h => ⟨fun x hx => by simp at hx, h⟩
    simpa using this
  | x :: L, [], R, P, hO, H => by have := hO.1; simp at this
  | x :: L, y :: D, R, P, hO, H => by
    have e : (R ++ (y :: D).map resD)[R.length]? = some (resD y) := by simp
    have hcap : y.all.length ≤ y.c0 := H.capE e
    have K := (H.shareE encR_ok e).sub (R' := R ++ D.map resD) (fun i => if i < R.length then i else i + 1) (fun i r hi => by
      by_cases h : i < R.length
      · rw [List.getElem?_append_left h] at hi
        rw [if_pos h, List.getElem?_set_ne (by omega), List.getElem?_append_left h]; exact hi
      · rw [List.getElem?_append_right (by omega)] at hi
        rw [if_neg h, List.getElem?_set_ne (by omega), List.getElem?_append_right (by omega), show i + 1 - R.length = (i - R.length) + 1 by omega]
        simpa using hi) (fun i j _ _ h => by
      by_cases h1 : i < R.length <;> by_cases h2 : j < R.length <;> simp only [h1, h2, if_true, if_false] at h <;> omega)
    have hO2 : OwnDs L D := ⟨by have := hO.1; simpa using this, fun i h h' => by
      have := hO.2 (i + 1) (by simpa using h) (by simpa using h')
      simpa using this⟩
    have K2 := shareD hO2 K
    refine K2.imp fun w h => ⟨fun z hz => ?_, h.2.2⟩
    rcases List.mem_cons.1 hz with rfl | hz
    · obtain ⟨n, _, hn, h1, h2, h3⟩ := hO.2 0 (by simp) (by simp)
      simp only [List.getElem_cons_zero] at hn h1 h2 h3
      rw [h1, h2]
      exact h.2.1.tailE (l := n) hcap
    · exact h.1 z hz
/-- a sender whose units are of the call's own, bytes, an error -/
def RetPB (w : World) (x : Sd) (bs : List Int) (E : Int) (e : Ending) (w' : World) : Prop :=
  ∃ a c ba bc L D, bs.length ≤ bc ∧ L.map (·.u) = x.units ∧ OwnDs L D ∧ e = .returned (.tuple #[aggS x a c, .slice ba bs.length bc, .int .i64 E]) ∧ St (fun _ => False) [] w w' (.els encUP Ty_api_Unit 5 a c L :: D.map resD) (fun w => SlR (IntC .u8) 1 w ba bs ∧ Dat0 L w)
theorem RetPB.read {w w' : World} {x : Sd} {bs : List Int} {E : Int} {e : Ending} (h : RetPB w x bs E e w') : RetW w x bs E e w' := by
  obtain ⟨a, c, ba, bc, L, D, hbc, hL, hO, he, H⟩ := h
  have K := (shareD (R := [.els encUP Ty_api_Unit 5 a c L]) hO H).shareE encUP_ok (i := 0) rfl
  exact ⟨a, c, ba, bc, hbc, he, K.fin.imp fun w h => ⟨by rw [← hL]; exact up_unR h.1 h.2.2.2 h.2.1, h.2.2.1⟩⟩
theorem retPZ {w w' : World} {R : List Res} {P : World → Prop} {b1 : Nat} {E : Int} {cs : List Value} {i : Nat} (H : St (fun _ => False) [] w w' R P) (hi : R[i]? = some (.blk b1 Ty_api_Sender cs)) (hl : cs.length = 13) :
    sxStore w' ⟨b1, 0, none⟩ 0 (encS .zero none 0) fun w4 =>
      ∃ r_0 r_1 r_2 r_3 r_4 r_5 r_6 r_7 : Int, ∃ r_8_a : Option Addr, ∃ r_8_l r_8_c : Nat, ∃ r_9 r_10 r_11 : Int, ∃ r_12 : Bool,
        cellsAt w4 ⟨b1, 0, none⟩ 0 [(.int .i64 r_0), (.int .i64 r_1), (.int .i64 r_2), (.int .i64 r_3), (.int .i64 r_4), (.int .i64 r_5), (.int .i64 r_6), (.int .i64 r_7), (.slice r_8_a r_8_l r_8_c), (.int .i64 r_9), (.int .i64 r_10), (.int .i64 r_11), (.bool r_12)] ∧
        RetPB w .zero [] E (.returned (.tuple #[(.agg #[.int .i64 r_0, .int .i64 r_1, .int .i64 r_2, .int .i64 r_3, .int .i64 r_4, .int .i64 r_5, .int .i64 r_6, .int .i64 r_7, .slice r_8_a r_8_l r_8_c, .int .i64 r_9, .int .i64 r_10, .int .i64 r_11, .bool r_12]), (.slice none 0 0), (.int .i64 E)])) w4 := by
  refine H.store hi (by rw [hl]; rfl) (by rfl) ?_
  intro w4 H4
  have hi4 : (R.set i (.blk b1 Ty_api_Sender (encS .zero none 0)))[i]? = some (.blk b1 Ty_api_Sender (encS .zero none 0)) := by
    have := (List.getElem?_eq_some_iff.1 hi).1
    simp [this]
  refine ⟨_, _, _, _, _, _, _, _, _, _, _, _, _, _, _, H4.cells hi4, ?_⟩
  exact ⟨none, 0, none, 0, [], [], Nat.le_refl _, rfl, ⟨rfl, fun i h => by simp at h⟩, rfl, (H4.fin.nilE encUP Ty_api_Unit 5).imp fun _ _ => ⟨.nil, fun x hx => by simp at hx⟩⟩
theorem retWZ {w w' : World} {R : List Res} {P : World → Prop} {b1 : Nat} {E : Int} {cs : List Value} {i : Nat} (H : St (fun _ => False) [] w w' R P) (hi : R[i]? = some (.blk b1 Ty_api_Sender cs)) (hl : cs.length = 13) :
    sxStore w' ⟨b1, 0, none⟩ 0 (encS .zero none 0) fun w4 =>
      ∃ r_0 r_1 r_2 r_3 r_4 r_5 r_6 r_7 : Int, ∃ r_8_a : Option Addr, ∃ r_8_l r_8_c : Nat, ∃ r_9 r_10 r_11 : Int, ∃ r_12 : Bool,
        cellsAt w4 ⟨b1, 0, none⟩ 0 [(.int .i64 r_0), (.int .i64 r_1), (.int .i64 r_2), (.int .i64 r_3), (.int .i64 r_4), (.int .i64 r_5), (.int .i64 r_6), (.int .i64 r_7), (.slice r_8_a r_8_l r_8_c), (.int .i64 r_9), (.int .i64 r_10), (.int .i64 r_11), (.bool r_12)] ∧
        RetW w .zero [] E (.returned (.tuple #[(.agg #[.int .i64 r_0, .int .i64 r_1, .int .i64 r_2, .int .i64 r_3, .int .i64 r_4, .int .i64 r_5, .int .i64 r_6, .int .i64 r_7, .slice r_8_a r_8_l r_8_c, .int .i64 r_9, .int .i64 r_10, .int .i64 r_11, .bool r_12]), (.slice none 0 0), (.int .i64 E)])) w4 := by
  refine H.store hi (by rw [hl]; rfl) (by rfl) ?_
  intro w4 H4
  have hi4 : (R.set i (.blk b1 Ty_api_Sender (encS .zero none 0)))[i]? = some (.blk b1 Ty_api_Sender (encS .zero none 0)) := by
    have := (List.getElem?_eq_some_iff.1 hi).1
    simp [this]
  refine ⟨_, _, _, _, _, _, _, _, _, _, _, _, _, _, _, H4.cells hi4, ?_⟩
  exact ⟨none, 0, none, 0, Nat.le_refl _, rfl, H4.fin.imp fun _ _ => ⟨.inl rfl, .nil⟩⟩

theorem ref20_BuildP_ct {s : Sd} {a : Option Addr} {c : Nat} {size : Int} {w : World} (hu : UnR w a s.units) (hl : SmU s.units) (hsz : -9223372036854775808 ≤ size ∧ size ≤ 9223372036854775807) :
    Calls Try.prog N_ref20_Build #[aggS s a c, .int .i64 size] w (RetPB w (buildS s size (begE s)).1 (buildS s size (begE s)).2.1 (buildS s size (begE s)).2.2) := by
  apply F_ref20_Build_ok
  unfold F_ref20_Build
  have H := St.nil w
  refine H.alloc ?_; clear H; intro b w1 H1
  refine H1.alloc ?_; clear H1; intro b1 w2 H2
  simp only [List.cons_append, List.nil_append] at H2
  replace H2 : St (fun _ => False) [] w w2 [.blk b Ty_api_Sender (encS s a c), .blk b1 Ty_api_Sender (encS .zero none 0)] (fun _ => True) := H2
  refine ⟨fun w8 => St (fun _ => False) [] w w8 [.blk b Ty_api_Sender (encS s a c), .blk b1 Ty_api_Sender (encS .zero none 0)] (fun _ => True) ∧ s.okB = true ∧ s.failed = false ∧ 0 ≤ size ∧ size ≤ 4096, ?_, ?_⟩
  · rintro _  w8 ⟨H8, hok, hfa, hs0, hs1⟩
    have hE : begE s = 0 := by rw [begE, if_neg (by rw [hok]; decide), if_neg (by rw [hfa]; decide)]
    obtain ⟨hfit, hlk, hsf, hsn, hall⟩ := okB_fit hok
    have hf1 := hfit.1
    have hb := hlk.1
    rw [buildS, if_neg (by omega), if_neg (by omega)]
    refine ⟨_, _, _, _, _, _, _, _, _, _, _, _, _, _, _, H8.cells (i := 0) rfl, ?_⟩
    refine (ref20_todo_ct (unR_below hu H8.below) (by omega) (fun u hu => (unB_sent (hall u hu).1).1)).mono ?_
    rintro _ w9 ⟨⟨h0, rfl⟩ | ⟨k, hk, hlk0, rfl⟩, hb9⟩
    · have H9 := H8.pass hb9
      refine ⟨_, _, _, _, rfl, ?_⟩
      refine bsplit_n (fun _ => ?_) (fun h => by cases h)
      rw [if_pos h0]
      exact retPZ H9 (i := 1) rfl rfl
    have H9 := H8.pass hb9; clear H8
    refine ⟨_, _, _, _, rfl, ?_⟩
    refine bsplit_n (fun h => by cases h) (fun _ => ?_)
    rw [if_neg (by omega), hlk0, Int.toNat_natCast, List.getElem?_eq_getElem hk]
    obtain ⟨u, hue⟩ : ∃ u, u = s.units[k] := ⟨_, rfl⟩
    have hmu : u ∈ s.units := by rw [hue]; exact List.getElem_mem _
    have hau := leftI_unit hk hlk0
    rw [← hue] at hau ⊢
    have hin := partU_in (hall u hmu).1 hau
    have hfu := hfit.2 u hmu
    obtain ⟨r, hr⟩ : ∃ r, r = partU u := ⟨_, rfl⟩
    rw [← hr] at hin ⊢
    dsimp only
    refine ⟨_, _, _, _, _, _, _, _, _, _, _, _, _, _, _, H9.cells (i := 0) rfl, ?_⟩
    refine (ref20_Copy_ct (unR_below hu H9.below) hfit).mono ?_
    rintro _ w11 ⟨ua, uc, L, hL, rfl, K11⟩
    have hlen : L.length = s.units.length := by rw [← hL, List.length_map]
    have H11 := H9.callF K11; clear H9
    refine ⟨_, _, _, _, _, _, _, _, _, _, _, _, _, _, _, rfl, ?_⟩
    refine H11.alloc ?_; clear H11; intro b2 w12 H12
    have H12 := H12.lastTo
    simp only [List.cons_append, List.nil_append] at H12
    refine H12.store (i := 2) rfl (by rfl) (by rfl) ?_; clear H12; intro w13 H13
    simp only [List.set_cons_succ, List.set_cons_zero] at H13
    refine H13.ldS (i := 2) rfl rfl ?_
    have hkL : k < L.length := by omega
    obtain ⟨x, hx⟩ : ∃ x, x = L[k] := ⟨_, rfl⟩
    have hxm : x ∈ L := by rw [hx]; exact List.getElem_mem _
    have hxu : x.u = u := by rw [hue, hx]; simp [← hL]
    obtain ⟨g, hg, hg1, hg2⟩ := H13.rowSome (i := 3) rfl (by omega)
    subst hg
    refine kIx_at ⟨by omega, by omega⟩ ?_
    simp only [add_mk, Nat.zero_add]
    refine ⟨fun p w19 => ∃ (q : Nat) (da : Option Addr) (dc : Nat), p = ⟨q, 0, none⟩ ∧ (pieceU u).data.length ≤ dc ∧
      St (fun _ => False) [] w w19 (.blk b Ty_api_Sender (encS s a c) :: .blk b1 Ty_api_Sender (encS .zero none 0) :: .blk b2 Ty_api_Sender (encS s (some ⟨g, 0, none⟩) uc) :: .els encUP Ty_api_Unit 5 (some ⟨g, 0, none⟩) uc L :: .blk q Ty_api_Piece (encPc ⟨u.sn, 3, 0, r.f, (pieceU u).data⟩ da dc) :: L.map agR) (fun w => SlR (IntC .u8) 1 w da (pieceU u).data ∧ DatR L w), ?_, ?_⟩
    · rintro _ p w19 ⟨q, da, dc, rfl, hdc, H19⟩
      have hp : ∀ v, partOf (decide (r.f = 0)) (decide (r.t = u.data.length)) = v → encPc ⟨u.sn, v, 0, r.f, (pieceU u).data⟩ da dc = encPc (pieceU u) da dc := fun v h => by rw [← h, hr]; rfl
      have set1 : ∀ (v : Int), (encPc ⟨u.sn, 3, 0, r.f, (pieceU u).data⟩ da dc).set (0 + 1) (.int .i64 v) = encPc ⟨u.sn, v, 0, r.f, (pieceU u).data⟩ da dc := fun v => rfl
      have hpl : (pieceU u).data.length ≤ 3000 := by
        have : (pieceU u).data.length ≤ u.data.length := by
          show ((u.data.take _).drop _).length ≤ _
          rw [List.length_drop, List.length_take]; omega
        omega
      have ld : ∀ {w' : World} {P : World → Prop} {pc : List Value}, St (fun _ => False) [] w w' (.blk b Ty_api_Sender (encS s a c) :: .blk b1 Ty_api_Sender (encS .zero none 0) :: .blk b2 Ty_api_Sender (encS s (some ⟨g, 0, none⟩) uc) :: .els encUP Ty_api_Unit 5 (some ⟨g, 0, none⟩) uc L :: .blk q Ty_api_Piece pc :: L.map agR) P →
          w'.cell? ⟨g, k * 5 + 1, none⟩ = some (.slice x.a u.data.length x.c) := fun H => H.cellEl encUP_ok (i := 3) rfl hkL (j := 1) (by decide) (by rw [← hx, ← hxu]; rfl)
      refine ⟨fun w24 => St (fun _ => False) [] w w24 (.blk b Ty_api_Sender (encS s a c) :: .blk b1 Ty_api_Sender (encS .zero none 0) :: .blk b2 Ty_api_Sender (encS s (some ⟨g, 0, none⟩) uc) :: .els encUP Ty_api_Unit 5 (some ⟨g, 0, none⟩) uc L :: .blk q Ty_api_Piece (encPc (pieceU u) da dc) :: L.map agR) (fun w => SlR (IntC .u8) 1 w da (pieceU u).data ∧ DatR L w), ?_, ?_⟩
      · rintro _ w24 H24
        refine H24.ld (i := 0) rfl rfl ?_
        refine ⟨_, _, _, _, _, _, _, H24.cells (i := 4) rfl, ?_⟩
        refine (ref18_Cut_ct H24.get.1 (by omega) hdc hsz).mono ?_
        rintro _ w25 ⟨pa, pc, pa', pc', hpc, hpc', rfl, K25⟩
        have H25 := H24.callF K25; clear H24
        simp only [List.append_nil] at H25
        obtain ⟨cu, hcu⟩ : ∃ cu, cu = cutP s.lk.bits (pieceU u) size := ⟨_, rfl⟩
        change St _ _ _ _ _ (fun w => (SlR (IntC .u8) 1 w pa (cutP s.lk.bits (pieceU u) size).1.data ∧ SlR (IntC .u8) 1 w pa' (cutP s.lk.bits (pieceU u) size).2.1.data) ∧ _) at H25
        rw [← hcu] at H25 ⊢
        refine ⟨_, _, _, _, _, _, _, _, _, _, _, _, _, _, _, rfl, ?_⟩
        refine H25.alloc ?_; clear H25; intro b6 w26 H26
        have H26 := St.lastTo (X := [_, _, _, _, _]) H26
        simp only [List.cons_append, List.nil_append] at H26
        refine H26.store (i := 4) rfl (by rfl) (by rfl) ?_; clear H26; intro w27 H27
        simp only [List.set_cons_succ, List.set_cons_zero] at H27
        refine H27.store (i := 5) rfl (by rfl) (by rfl) ?_; clear H27; intro w28 H28
        simp only [List.set_cons_succ, List.set_cons_zero] at H28
        replace H28 : St (fun _ => False) [] w w28 (.blk b Ty_api_Sender (encS s a c) :: .blk b1 Ty_api_Sender (encS .zero none 0) :: .blk b2 Ty_api_Sender (encS s (some ⟨g, 0, none⟩) uc) :: .els encUP Ty_api_Unit 5 (some ⟨g, 0, none⟩) uc L :: .blk q Ty_api_Piece (encPc cu.1 pa pc) :: .blk b6 Ty_api_Piece (encPc cu.2.1 pa' pc') :: L.map agR) (fun w => SlR (IntC .u8) 1 w pa cu.1.data ∧ DatR L w) := H28.imp fun _ h => ⟨h.1.1, h.2.2⟩
        refine bsplit_nd (fun c14 => ?_) (fun c14 => ?_)
        · rw [if_pos c14]
          exact retPZ H28 (i := 1) rfl rfl
        rw [if_neg (by omega)]
        obtain ⟨hqo, hqp⟩ := cut_ok (b := s.lk.bits) (p := pieceU u) (size := size) (by rw [← hcu]; exact c14)
        rw [← hcu] at hqo hqp
        obtain ⟨q1, hq1⟩ : ∃ q1, q1 = cu.1 := ⟨_, rfl⟩
        rw [← hq1] at hqo hqp H28 ⊢
        have hml : q1.data.length ≤ 2054 := by have h6 := hqo.2.2.2.2.2.1; have := hqo.2.2.2.2.2.2; omega
        have hun := unB_sent (hall u hmu).1
        obtain ⟨m, hm⟩ : ∃ m, m = q1.data.length := ⟨_, rfl⟩
        rw [add_mk]
        refine H28.ldS (i := 4) rfl rfl ?_
        rw [← hm]
        refine kW_i64 (by omega) ?_
        refine ⟨fun w33 => ∃ (L' : List UP) (D' : List DP), L'.map (·.u) = s.units.set k (takeU u m) ∧ OwnDs L' D' ∧ St (fun _ => False) [] w w33 (.blk b Ty_api_Sender (encS s a c) :: .blk b1 Ty_api_Sender (encS .zero none 0) :: .blk b2 Ty_api_Sender (encS s (some ⟨g, 0, none⟩) uc) :: .els encUP Ty_api_Unit 5 (some ⟨g, 0, none⟩) uc L' :: .blk q Ty_api_Piece (encPc q1 pa pc) :: D'.map resD) (fun w => SlR (IntC .u8) 1 w pa q1.data ∧ Dat0 L' w), ?_, ?_⟩
        · rintro _ w33 ⟨L', D', hL', hO', H33⟩
          have hpc1 := okB_pieces hok
          have hev := hlk.2.1
          obtain ⟨s1, hs1'⟩ : ∃ s1 : Sd, s1 = { s with units := s.units.set k (takeU u m), pieces := s.pieces + 1 } := ⟨_, rfl⟩
          have hu1 : s1.units = s.units.set k (takeU u m) := by rw [hs1']
          have hl1 : s1.lk = s.lk := by rw [hs1']
          have hn1 : s1.units.length = s.units.length := by rw [hu1, List.length_set]
          have hbT : buildT s k u q1 = if s1.pieces = s.lk.every ∨ leftI s1.units < 0 then (askS s1, (encP s.lk.bits { q1 with poll := 1 }).1, 0) else (s1, (encP s.lk.bits q1).1, 0) := by rw [hs1', hm]; rfl
          refine H33.ld (i := 2) rfl rfl ?_
          refine kW_i64 (by omega) ?_
          refine H33.set (i := 2) rfl (by show 9 < 13; decide) ?_; clear H33; intro w34 H34
          simp only [List.set_cons_succ, List.set_cons_zero] at H34
          have e9 : (encS s (some ⟨g, 0, none⟩) uc).set 9 (.int .i64 (s.pieces + 1)) = encS s1 (some ⟨g, 0, none⟩) uc := by
            rw [hs1']; simp only [encS, List.length_set]; rfl
          rw [e9] at H34
          have hUn : ∀ {w' : World} {x0 x1 x2 x4 : Res}, St (fun _ => False) [] w w' (x0 :: x1 :: x2 :: .els encUP Ty_api_Unit 5 (some ⟨g, 0, none⟩) uc L' :: x4 :: D'.map resD) (fun w => SlR (IntC .u8) 1 w pa q1.data ∧ Dat0 L' w) → UnR w' (some ⟨g, 0, none⟩) s1.units := fun {w' x0 x1 x2 x4} H => by
            have K := shareD (R := [x0, x1, x2, .els encUP Ty_api_Unit 5 (some ⟨g, 0, none⟩) uc L', x4]) hO' H
            rw [hu1, ← hL']; exact up_unR (H.slE encUP_ok (i := 3) rfl) K.get.2.2 K.get.1
          refine ⟨fun w42 => ∃ (t : Sd) (q2 : Pc), buildT s k u q1 = (t, (encP s.lk.bits q2).1, 0) ∧ q2.data = q1.data ∧ t.units = s1.units ∧ St (fun _ => False) [] w w42 (.blk b Ty_api_Sender (encS s a c) :: .blk b1 Ty_api_Sender (encS .zero none 0) :: .blk b2 Ty_api_Sender (encS t (some ⟨g, 0, none⟩) uc) :: .els encUP Ty_api_Unit 5 (some ⟨g, 0, none⟩) uc L' :: .blk q Ty_api_Piece (encPc q2 pa pc) :: D'.map resD) (fun w => SlR (IntC .u8) 1 w pa q1.data ∧ Dat0 L' w), ?_, ?_⟩
          · rintro _ w42 ⟨t, q2, hbt, hqd, htu, H42⟩
            refine H42.ld (i := 0) rfl rfl ?_
            refine ⟨_, _, _, _, _, _, _, H42.cells (i := 4) rfl, ?_⟩
            refine (ref18_Encode_ct (d := q2.data) (by rw [hqd]; exact H42.get.1) (by rw [hqd]; omega)).mono ?_
            rintro _ w43 ⟨ba, bc, hbl, rfl, K43⟩
            have H43 := H42.callF K43; clear H42
            simp only [List.append_nil] at H43
            refine ⟨_, _, _, _, rfl, ?_⟩
            refine ⟨_, _, _, _, _, _, _, _, _, _, _, _, _, _, _, H43.cells (i := 2) rfl, ?_⟩
            refine H43.store (i := 1) rfl (by rfl) (by rfl) ?_; clear H43; intro w44 H44
            simp only [List.set_cons_succ, List.set_cons_zero] at H44
            refine ⟨_, _, _, _, _, _, _, _, _, _, _, _, _, _, _, H44.cells (i := 1) rfl, ?_⟩
            rw [hbt]
            have H45 := St.skip (X := [_, _, _, _]) H44
            have H46 := St.skip (X := [_, _]) H45
            have H47 := St.skip (X := [_]) H46
            have H48 := St.skip (X := []) H47
            exact ⟨_, _, _, _, L', D', hbl, by rw [htu, hu1, hL'], hO', rfl, H48.imp fun w h => ⟨h.1, h.2.2⟩⟩
          · refine ⟨fun x13 w36 => St (fun _ => False) [] w w36 (.blk b Ty_api_Sender (encS s a c) :: .blk b1 Ty_api_Sender (encS .zero none 0) :: .blk b2 Ty_api_Sender (encS s1 (some ⟨g, 0, none⟩) uc) :: .els encUP Ty_api_Unit 5 (some ⟨g, 0, none⟩) uc L' :: .blk q Ty_api_Piece (encPc q1 pa pc) :: D'.map resD) (fun w => SlR (IntC .u8) 1 w pa q1.data ∧ Dat0 L' w) ∧ (x13 = true ↔ s1.pieces = s.lk.every ∨ leftI s1.units < 0), ?_, ?_⟩
            · rintro _ x13 w36 ⟨H36, hj⟩
              refine bsplit_intro (fun c13 => ?_) (fun c13 => ?_)
              · rw [if_pos (hj.1 c13)] at hbT
                rw [add_mk]
                refine H36.set (i := 4) rfl (by show 0 + 2 < 5; decide) ?_; clear H36; intro w37 H37
                simp only [List.set_cons_succ, List.set_cons_zero] at H37
                refine H37.set (i := 2) rfl (by show 9 < 13; decide) ?_; clear H37; intro w38 H38
                simp only [List.set_cons_succ, List.set_cons_zero] at H38
                refine ⟨fun i => ((s1.units.length - i).toNat, fun w39 => ∃ j : Nat, i = j ∧ j ≤ s1.units.length ∧ St (fun _ => False) [] w w39 (.blk b Ty_api_Sender (encS s a c) :: .blk b1 Ty_api_Sender (encS .zero none 0) :: .blk b2 Ty_api_Sender (encS { s1 with pieces := 0, poll := lastSn (s1.units.take j) s1.poll } (some ⟨g, 0, none⟩) uc) :: .els encUP Ty_api_Unit 5 (some ⟨g, 0, none⟩) uc L' :: .blk q Ty_api_Piece (encPc { q1 with poll := 1 } pa pc) :: D'.map resD) (fun w => SlR (IntC .u8) 1 w pa q1.data ∧ Dat0 L' w)), ⟨0, rfl, by omega, H38⟩, ?_⟩
                clear H38
                rintro _ i w39 ⟨j, rfl, hj39, H39⟩
                refine H39.ldS (i := 2) rfl rfl ?_
                refine bsplit_dec (fun c12 => ?_) (fun c12 => ?_)
                · have hjl : j < s1.units.length := by have : (j : Int) < (s1.units.length : Int) := c12; omega
                  have hstp := lastSn_step (d := s1.poll) hjl
                  have hu39 := hUn H39
                  refine H39.ldS (i := 2) rfl rfl ?_
                  refine ixU hu39 j rfl hjl fun b8 hb8 => ?_
                  obtain ⟨_, _, _, _, hb8, _, _⟩ := hb8
                  refine ⟨_, unC_at hb8 2 rfl, ?_⟩
                  refine bsplit_dec (fun c11 => ?_) (fun c11 => ?_)
                  · rw [if_pos c11] at hstp
                    refine H39.ldS (i := 2) rfl rfl ?_
                    refine ixU hu39 j rfl hjl fun b9 hb9 => ?_
                    obtain ⟨_, _, _, _, hb9, _, _⟩ := hb9
                    refine ⟨_, unC_at hb9 0 rfl, ?_⟩
                    refine H39.set (i := 2) rfl (by show 10 < 13; decide) ?_; clear H39; intro w40 H40
                    simp only [List.set_cons_succ, List.set_cons_zero] at H40
                    refine kW_i64 (by omega) ?_
                    exact ⟨⟨j + 1, by omega, by omega, by rw [hstp]; exact H40⟩, by first | omega | (dsimp only; omega)⟩
                  · rw [if_neg c11] at hstp
                    refine kW_i64 (by omega) ?_
                    exact ⟨⟨j + 1, by omega, by omega, by rw [hstp]; exact H39⟩, by first | omega | (dsimp only; omega)⟩
                · obtain rfl : j = s1.units.length := by have : ¬ (j : Int) < (s1.units.length : Int) := c12; omega
                  rw [List.take_length] at H39
                  refine H39.ld (i := 0) rfl rfl ?_
                  refine H39.set (i := 2) rfl (by show 11 < 13; decide) ?_; clear H39; intro w41 H41
                  simp only [List.set_cons_succ, List.set_cons_zero] at H41
                  exact ⟨askS s1, { q1 with poll := 1 }, hbT, rfl, rfl, by rw [show s.lk.poll = s1.lk.poll by rw [hl1]] at H41; exact H41⟩
              · rw [if_neg (fun h => by rw [hj.2 h] at c13; cases c13)] at hbT
                exact ⟨s1, q1, hbT, rfl, rfl, H36⟩
            · refine H34.ld (i := 2) (x := s1.pieces) rfl rfl ?_
              refine H34.ld (i := 0) rfl rfl ?_
              refine bsplit_dec (fun c10 => ?_) (fun c10 => ?_)
              · exact ⟨H34, iff_of_true rfl (.inl c10)⟩
              · refine ⟨_, _, _, _, _, _, _, _, _, _, _, _, _, _, _, H34.cells (i := 2) rfl, ?_⟩
                refine (ref20_Left_ct (s := s1) (hUn H34) (by omega) (fun v hv => ?_)).mono ?_
                · rw [hu1] at hv
                  rcases List.mem_or_eq_of_mem_set hv with hv | rfl
                  · exact (unB_sent (hall v hv).1).1
                  · refine takeU_sent (fun hag => ?_) hun.1
                    have h1 := cut_len s.lk.bits (pieceU u) size
                    rw [← hcu, ← hq1, ← hm] at h1
                    have h2 : (pieceU u).data.length = r.t.toNat - r.f.toNat := by
                      show ((u.data.take (partU u).t.toNat).drop (partU u).f.toNat).length = _
                      rw [← hr, List.length_drop, List.length_take]; omega
                    have h3 : r.f = u.sent := by rw [hr, partU, hag]
                    omega
                rintro _ w35 ⟨rfl, hb35⟩
                refine ⟨_, rfl, ?_⟩
                refine ⟨H34.pass hb35, ?_⟩
                rw [← decide_not, decide_eq_true_iff]
                exact ⟨fun h => .inr (by omega), fun h => by
                  rcases h with h | h
                  · exact absurd h c10
                  · omega⟩
        · have ha4 : ∀ {w' : World} {P : World → Prop} {T : List Res}, St (fun _ => False) [] w w' (.blk b Ty_api_Sender (encS s a c) :: .blk b1 Ty_api_Sender (encS .zero none 0) :: .blk b2 Ty_api_Sender (encS s (some ⟨g, 0, none⟩) uc) :: .els encUP Ty_api_Unit 5 (some ⟨g, 0, none⟩) uc L :: T) P →
              w'.cell? ⟨g, k * 5 + 4, none⟩ = some (.slice x.a2 u.again.length x.c2) := fun H => H.cellEl encUP_ok (i := 3) rfl hkL (j := 4) (by decide) (by rw [← hx, ← hxu]; rfl)
          have hmap : ∀ (z : UP), (L.set k z).map (·.u) = s.units.set k z.u := fun z => by rw [List.map_set, hL]
          have hdat : ∀ {z : UP} {w : World}, z.a = x.a → z.u.data = x.u.data → DatR L w → Dat0 (L.set k z) w := fun h1 h2 h v hv => by
            rcases List.mem_or_eq_of_mem_set hv with hv | rfl
            · exact (h v hv).1
            · rw [h1, h2]; exact (h x hxm).1
          refine ⟨_, _, _, ha4 H28, ?_⟩
          refine bsplit_dec (fun c9 => ?_) (fun c9 => ?_)
          · obtain ⟨r0, l, hag⟩ : ∃ r0 l, u.again = r0 :: l := by
              cases h : u.again with
              | nil => rw [h] at c9; simp at c9
              | cons r0 l => exact ⟨r0, l, rfl⟩
            have hr0 : r = r0 := by rw [hr, partU, hag]
            have hi : (.blk b Ty_api_Sender (encS s a c) :: .blk b1 Ty_api_Sender (encS .zero none 0) :: .blk b2 Ty_api_Sender (encS s (some ⟨g, 0, none⟩) uc) :: .els encUP Ty_api_Unit 5 (some ⟨g, 0, none⟩) uc L :: .blk q Ty_api_Piece (encPc q1 pa pc) :: .blk b6 Ty_api_Piece (encPc cu.2.1 pa' pc') :: L.map agR : List Res)[k + 6]? = some (.els encR Ty_api_Range 3 x.a2 x.c2 (r0 :: l)) := by
              show (L.map agR)[k]? = _
              rw [List.getElem?_map, List.getElem?_eq_getElem hkL, ← hx]
              show some (agR x) = _
              rw [agR, hxu, hag]
            have hcap : (r0 :: l).length ≤ x.c2 := H28.capE hi
            obtain ⟨ga, hga, _, _⟩ := H28.rowSome hi (by simp)
            refine ⟨_, _, _, ha4 H28, ?_⟩
            rw [hga]
            refine kIx_at ⟨by omega, by omega⟩ ?_
            rw [show ((⟨ga, 0, none⟩ : Addr).add ((0 : Int).toNat * 3)).add 1 = ⟨ga, 0 * 3 + 1, none⟩ by rw [add_mk, add_mk]; rfl]
            rw [hga] at hi
            refine H28.setEl encR_ok hi (k := 0) (by simp) (j := 1) (by decide) ⟨r0.sn, r.f + m, r0.t⟩ (by rfl) ?_
            clear H28; intro w29 f29 H29
            simp only [List.set_cons_succ, List.set_cons_zero] at H29
            obtain ⟨z1, hz1⟩ : ∃ z1 : UP, z1 = ⟨{ u with again := ⟨r0.sn, r.f + m, r0.t⟩ :: l }, x.a, x.c, x.a2, x.c2⟩ := ⟨_, rfl⟩
            obtain ⟨y1, hy1⟩ : ∃ y : DP, y = ⟨x.a2, x.c2, ⟨r0.sn, r.f + m, r0.t⟩ :: l⟩ := ⟨_, rfl⟩
            have eD : (L.map agR).set k (.els encR Ty_api_Range 3 (some ⟨ga, 0, none⟩) x.c2 (⟨r0.sn, r.f + m, r0.t⟩ :: l)) = ((L.map toD).set k y1).map resD := by
              rw [List.map_set, List.map_map, hy1, ← hga]; rfl
            have H30 := St.skip (X := [_, _, _, _, _]) H29
            simp only [List.cons_append, List.nil_append] at H30
            rw [eD] at H30
            refine bsplit_dec (fun c8 => ?_) (fun c8 => ?_)
            · refine ⟨_, _, _, ha4 H30, ?_⟩
              refine ⟨⟨by omega, by omega⟩, ?_⟩
              have htk : takeU u m = { u with again := l } := by unfold takeU; rw [hag]; rw [hr0] at c8; exact if_pos c8
              obtain ⟨z, hz⟩ : ∃ z : UP, z = ⟨takeU u m, x.a, x.c, slAddr x.c2 1 3 x.a2, x.c2 - 1⟩ := ⟨_, rfl⟩
              refine H30.setEl encUP_ok (i := 3) rfl hkL (j := 4) (by decide) z (by rw [← hx, hz, htk, hag, ← hxu]; rfl) ?_
              clear H30; intro w31 f31 H31
              simp only [List.set_cons_succ, List.set_cons_zero] at H31
              exact ⟨L.set k z, (L.map toD).set k y1, by rw [hmap, hz], ownDs_set (ownDs0 L) ⟨1, Nat.le_refl _, by rw [hy1]; simp, by rw [hz, htk, hy1]; rfl, by rw [hz, hy1], by rw [hz, hy1]⟩, H31.imp fun w h => ⟨h.1, hdat (by rw [hz]) (by rw [hz, htk, hxu]) h.2⟩⟩
            · have htk : takeU u m = { u with again := ⟨r0.sn, r.f + m, r0.t⟩ :: l } := by unfold takeU; rw [hag]; rw [hr0] at c8 ⊢; exact if_neg c8
              have e2 : (.els encUP Ty_api_Unit 5 (some ⟨g, 0, none⟩) uc L : Res) = .els encUP Ty_api_Unit 5 (some ⟨g, 0, none⟩) uc (L.set k z1) := by
                have e3 : encUP z1 = encUP L[k] := by rw [← hx, hz1]; simp only [encUP, encU, hxu, hag, List.length_cons]
                have e4 : (L.set k z1).map encUP = L.map encUP := by
                  rw [List.map_set, e3]
                  exact list_set_self (by rw [List.getElem?_map, List.getElem?_eq_getElem hkL]; rfl)
                simp only [Res.els, List.length_set, List.flatMap_def, e4]
              rw [e2] at H30
              exact ⟨L.set k z1, (L.map toD).set k y1, by rw [hmap, hz1, htk], ownDs_set (ownDs0 L) ⟨0, Nat.zero_le _, Nat.zero_le _, by rw [hz1, hy1]; rfl, by rw [hz1, hy1, slAddr0], by rw [hz1, hy1]; rfl⟩, H30.imp fun w h => ⟨h.1, hdat (by rw [hz1]) (by rw [hz1, hxu]) h.2⟩⟩
          · have hag : u.again = [] := List.eq_nil_of_length_eq_zero (by omega)
            have hr2 : r = ⟨u.sn, u.sent, u.data.length⟩ := by rw [hr, partU, hag]
            obtain ⟨z, hz⟩ : ∃ z : UP, z = ⟨takeU u m, x.a, x.c, x.a2, x.c2⟩ := ⟨_, rfl⟩
            have htk : takeU u m = { u with sent := r.f + m } := by unfold takeU; rw [hag, hr2]
            refine H28.setEl encUP_ok (i := 3) rfl hkL (j := 2) (by decide) z (by rw [← hx, hz, htk, ← hxu]; rfl) ?_
            clear H28; intro w29 f29 H29
            simp only [List.set_cons_succ, List.set_cons_zero] at H29
            have H30 := St.skip (X := [_, _, _, _, _]) H29
            simp only [List.cons_append, List.nil_append] at H30
            have eD : L.map agR = (L.map toD).map resD := by rw [List.map_map]; rfl
            rw [eD] at H30
            exact ⟨L.set k z, (L.map toD).set k (toD z), by rw [hmap, hz], ownDs_set (ownDs0 L) (ownD0 z), by
              have e : (L.map toD).set k (toD z) = L.map toD := by
                have : toD z = toD L[k] := by rw [← hx, hz, htk]; unfold toD; rw [hxu]
                rw [this]
                exact list_set_self (by rw [List.getElem?_map, List.getElem?_eq_getElem hkL]; rfl)
              rw [e]
              exact H30.imp fun w h => ⟨h.1, hdat (by rw [hz]) (by rw [hz, htk, hxu]) h.2⟩⟩
      · refine ⟨fun x4 w20 => St (fun _ => False) [] w w20 (.blk b Ty_api_Sender (encS s a c) :: .blk b1 Ty_api_Sender (encS .zero none 0) :: .blk b2 Ty_api_Sender (encS s (some ⟨g, 0, none⟩) uc) :: .els encUP Ty_api_Unit 5 (some ⟨g, 0, none⟩) uc L :: .blk q Ty_api_Piece (encPc ⟨u.sn, 3, 0, r.f, (pieceU u).data⟩ da dc) :: L.map agR) (fun w => SlR (IntC .u8) 1 w da (pieceU u).data ∧ DatR L w) ∧ (x4 = true ↔ r.f = 0 ∧ r.t = u.data.length), ?_, ?_⟩
        · rintro _ x4 w20 ⟨H20, hj⟩
          refine bsplit_intro (fun c7 => ?_) (fun c7 => ?_) --  x4
          · have h7 := hj.1 c7
            rw [add_mk]
            refine H20.set (i := 4) rfl (by show 0 + 1 < 5; decide) ?_; clear H20; intro w21 H21
            simp only [List.set_cons_succ, List.set_cons_zero] at H21
            rw [set1, hp 0 (by rw [decide_eq_true h7.1, decide_eq_true h7.2]; rfl)] at H21
            exact H21
          · have h7 : ¬ (r.f = 0 ∧ r.t = u.data.length) := fun h => by rw [hj.2 h] at c7; cases c7
            refine kLet_in ?_
            refine bsplit_dec (fun c6 => ?_) (fun c6 => ?_) --  (decide (r2 = (0 : Int)))
            · rw [add_mk]
              refine H20.set (i := 4) rfl (by show 0 + 1 < 5; decide) ?_; clear H20; intro w21 H21
              simp only [List.set_cons_succ, List.set_cons_zero] at H21
              rw [set1, hp 1 (by rw [decide_eq_true c6, decide_eq_false (fun h => h7 ⟨c6, h⟩)]; rfl)] at H21
              exact H21
            · refine ⟨_, _, _, ld H20, ?_⟩
              refine kLet_in ?_
              refine bsplit_dec (fun c5 => ?_) (fun c5 => ?_) --  (decide (r3 = (x_l3 : Int)))
              · rw [add_mk]
                refine H20.set (i := 4) rfl (by show 0 + 1 < 5; decide) ?_; clear H20; intro w21 H21
                simp only [List.set_cons_succ, List.set_cons_zero] at H21
                rw [set1, hp 2 (by rw [decide_eq_false c6, decide_eq_true c5]; rfl)] at H21
                exact H21
              · rw [hp 3 (by rw [decide_eq_false c6, decide_eq_false c5]; rfl)] at H20
                exact H20
        · refine bsplit_dec (fun c4 => ?_) (fun c4 => ?_) --  (decide (r2 = (0 : Int)))
          · refine ⟨_, _, _, ld H19, ?_⟩
            refine kLet_in ?_
            exact ⟨H19, by rw [decide_eq_true_iff]; exact ⟨fun h => ⟨c4, h⟩, fun h => h.2⟩⟩
          · exact ⟨H19, iff_of_false (by decide) (fun h => c4 h.1)⟩
    · have hpd : (pieceU u).data = (u.data.drop r.f.toNat).take (r.t.toNat - r.f.toNat) := by
        show (u.data.take (partU u).t.toNat).drop (partU u).f.toNat = _
        rw [← hr, List.drop_take]
      have hpl : (pieceU u).data.length = r.t.toNat - r.f.toNat := by rw [hpd, List.length_take, List.length_drop]; omega
      refine H13.drew ?_; clear H13; intro w14 H14
      obtain ⟨hxd, hxc⟩ := H14.get.1 x hxm
      rw [hxu] at hxd hxc
      refine ⟨(· < w14.heap.size), ?_⟩
      have c0 := H14.cellEl encUP_ok (i := 3) rfl hkL (j := 0) (v := .int .i64 u.sn) (by decide) (by rw [← hx, ← hxu]; rfl)
      have c1 := H14.cellEl encUP_ok (i := 3) rfl hkL (j := 1) (v := .slice x.a u.data.length x.c) (by decide) (by rw [← hx, ← hxu]; rfl)
      refine ⟨cell_lt c0, ?_⟩
      refine ⟨_, c0, ?_⟩
      refine ⟨cell_lt c1, ?_⟩
      refine ⟨_, _, _, c1, ?_⟩
      refine ⟨⟨by omega, by omega⟩, ?_⟩
      refine ⟨⟨by omega, by omega⟩, ?_⟩
      have hda : ∀ w, DatR L w → SlR (IntC .u8) 1 w (slAddr x.c r.f.toNat 1 x.a) (pieceU u).data := fun w h => by
        have h1 := (h x hxm).1
        rw [hxu] at h1
        rw [hpd]; exact h1.cutE hxc _
      refine ⟨?_, ?_, trivial⟩ --! fork
      · refine ⟨fun _ _ _ h => h, ?_⟩
        refine H14.allocB ?_; intro b4 w15 hb15 H15
        refine ⟨hb15.keeps, ?_⟩
        have H15 := St.lastTo (X := [_, _, _, _]) H15
        simp only [List.cons_append, List.nil_append] at H15
        refine H15.store (i := 4) rfl (by rfl) (by rfl) ?_; intro w16 H16
        simp only [List.set_cons_succ, List.set_cons_zero] at H16
        refine ⟨b4, slAddr x.c r.f.toNat 1 x.a, x.c - r.f.toNat, rfl, by omega, ?_⟩
        unfold encPc
        rw [hpl]
        exact H16.imp fun w h => ⟨hda w h.1, h.1⟩
      · refine H14.allocB ?_; intro b5 w17 hb17 H17
        refine ⟨hb17.keeps, ?_⟩
        refine ⟨hb17.keeps, ?_⟩
        have H17 := St.lastTo (X := [_, _, _, _]) H17
        simp only [List.cons_append, List.nil_append] at H17
        refine H17.store (i := 4) rfl (by rfl) (by rfl) ?_; intro w18 H18
        simp only [List.set_cons_succ, List.set_cons_zero] at H18
        refine ⟨b5, slAddr x.c r.f.toNat 1 x.a, x.c - r.f.toNat, rfl, by omega, ?_⟩
        unfold encPc
        rw [hpl]
        exact H18.imp fun w h => ⟨hda w h.1, h.1⟩
  · refine ⟨_, _, _, _, _, _, _, _, _, _, _, _, _, _, _, H2.cells (i := 0) rfl, ?_⟩
    refine (ref20_Valid_ct (unR_below hu H2.below) hl).mono ?_
    rintro _ w3 ⟨rfl, hb3⟩; have H3 := H2.pass hb3; clear H2
    refine ⟨_, rfl, ?_⟩
    refine bsplit_n (fun c3 => ?_) (fun c3 => ?_) --  (!r)
    · have hE : begE s = 1 := by rw [begE, if_pos c3]
      rw [buildS, if_pos (by omega), hE]
      exact retPZ H3 (i := 1) rfl rfl
    refine H3.ldB (i := 0) rfl rfl ?_
    refine bsplit_intro (fun c2 => ?_) (fun c2 => ?_) --  s_12
    · have hE : begE s = 16 := by rw [begE, if_neg (by rw [c3]; decide), if_pos c2]
      rw [buildS, if_pos (by omega), hE]
      exact retPZ H3 (i := 1) rfl rfl
    have hE : begE s = 0 := by rw [begE, if_neg (by rw [c3]; decide), if_neg (by rw [c2]; decide)]
    refine bsplit_dec (fun c1 => ?_) (fun c1 => ?_) --  (decide (size < (0 : Int)))
    · rw [buildS, if_neg (by omega), if_pos (by omega)]
      exact retPZ H3 (i := 1) rfl rfl
    · refine kLet_in ?_
      refine bsplit_dec (fun c => ?_) (fun c => ?_) --  (decide (size > (4096 : Int)))
      · rw [buildS, if_neg (by omega), if_pos (by omega)]
        exact retPZ H3 (i := 1) rfl rfl
      · exact ⟨H3, c3, c2, by omega, by omega⟩
theorem ref20_Build_ct {s : Sd} {a : Option Addr} {c : Nat} {size : Int} {w : World} (hu : UnR w a s.units) (hl : SmU s.units) (hsz : -9223372036854775808 ≤ size ∧ size ≤ 9223372036854775807) :
    Calls Try.prog N_ref20_Build #[aggS s a c, .int .i64 size] w (RetW w (buildS s size (begE s)).1 (buildS s size (begE s)).2.1 (buildS s size (begE s)).2.2) :=
  (ref20_BuildP_ct hu hl hsz).mono fun _ _ h => h.read
end Go.Proofs.Ytmhggobilcmdmaa
namespace Go.Proofs.Ytmhggobilcmdmaa
open Go.Sx Go.RowKit
set_option maxRecDepth 100000
theorem sender_part_ct {u : Un} {a a2 : Option Addr} {c c2 : Nat} {w : World} (hr : SlR (CE encR) 3 w a2 u.again) :
    Calls Try.prog N_sender_part #[aggU u a c a2 c2] w fun e w' => e = .returned (.agg #[.int .i64 (partU u).sn, .int .i64 (partU u).f, .int .i64 (partU u).t]) ∧ Below w.heap.size w w' := by
  apply F_sender_part_ok
  unfold F_sender_part
  have H := St.nil w
  refine H.alloc ?_; clear H; intro b w1 H1
  refine H1.alloc ?_; clear H1; intro b1 w2 H2
  simp only [List.cons_append, List.nil_append] at H2
  refine H2.ldS (i := 0) rfl rfl ?_
  refine bsplit_dec (fun cc => ?_) (fun cc => ?_) --  (decide ((u_4_l : Int) > (0 : Int)))
  · refine H2.ldS (i := 0) rfl rfl ?_
    refine ixE (hr.belowE H2.below) 0 rfl (by omega) fun b2 r h hb2 => ?_
    refine ⟨_, _, _, hb2, ?_⟩
    refine H2.store (i := 1) rfl (by rfl) (by rfl) ?_; clear H2; intro w3 H3
    refine ⟨_, _, _, H3.cells (i := 1) rfl, ?_⟩
    have hp : partU u = r := by
      unfold partU
      cases hh : u.again with
      | nil => rw [hh] at h; simp at h
      | cons x l => rw [hh] at h; simp at h; exact h
    exact ⟨by rw [hp], H3.below⟩
  · have hp : partU u = ⟨u.sn, u.sent, u.data.length⟩ := by
      unfold partU
      rw [List.eq_nil_of_length_eq_zero (show u.again.length = 0 by omega)]
    refine H2.ld (i := 0) rfl rfl ?_
    refine H2.ld (i := 0) rfl rfl ?_
    refine H2.ldS (i := 0) rfl rfl ?_
    refine H2.store (i := 1) rfl (by rfl) (by rfl) ?_; clear H2; intro w4 H4
    refine ⟨_, _, _, H4.cells (i := 1) rfl, ?_⟩
    exact ⟨by rw [hp], H4.below⟩
end Go.Proofs.Ytmhggobilcmdmaa
namespace Go.Proofs.Ytmhggobilcmdmaa
open Go.Sx Go.RowKit
set_option maxRecDepth 100000
theorem sender_Build_ct {s : Sd} {a : Option Addr} {c : Nat} {size : Int} {w : World} (hu : UnR w a s.units) (hl : SmU s.units) (hsz : -9223372036854775808 ≤ size ∧ size ≤ 9223372036854775807) :
    Calls Try.prog N_sender_Build #[aggS s a c, .int .i64 size] w (RetW w (buildS s size (begE s)).1 (buildS s size (begE s)).2.1 (buildS s size (begE s)).2.2) := by
  apply F_sender_Build_ok
  unfold F_sender_Build
  have H := St.nil w
  refine H.alloc ?_; clear H; intro b0 w1 H1
  refine H1.alloc ?_; clear H1; intro b1 w2 H2
  simp only [List.cons_append, List.nil_append] at H2
  refine ⟨_, _, _, _, _, _, _, _, _, _, _, _, _, _, _, H2.cells (i := 0) rfl, ?_⟩
  refine (sender_begin_ct (unR_below hu H2.below) hl).mono ?_
  rintro _ w3 (⟨hE, rfl, hb3⟩ | ⟨hE, b, ua, uc, L, hL, rfl, K3⟩)
  · have H3 := H2.pass hb3; clear H2
    refine ⟨_, _, rfl, ?_⟩
    refine bsplit_nd (fun _ => ?_) (fun h => absurd h hE)
    rw [buildS, if_pos hE]
    exact retWZ H3 (i := 1) rfl rfl
  have H3 := H2.callF K3; clear H2
  simp only [List.cons_append, List.nil_append] at H3
  refine ⟨_, _, rfl, ?_⟩
  refine bsplit_nd (fun h => absurd rfl h) (fun _ => ?_)
  obtain ⟨hok, hfa⟩ := begE_ok hE
  obtain ⟨hfit, hlk, hsf, hsn, hall⟩ := okB_fit hok
  have hf1 := hfit.1
  have hb := hlk.1
  have hlen : L.length = s.units.length := by rw [← hL, List.length_map]
  rw [buildS, if_neg (by omega)]
  refine (sender_side_left_ct (s := s) (b := b) (o := 0) ⟨ua, uc, H3.cells (i := 2) rfl, sideU H3 (fun _ h => h.1) hL⟩ (by omega)).mono ?_
  rintro _ w5 ⟨rfl, hb5⟩; have H5 := H3.pass hb5; clear H3
  refine ⟨_, rfl, ?_⟩
  refine sender_between_ct.mono ?_
  rintro _ w6 ⟨rfl, hb6⟩; have H6 := H5.pass hb6; clear H5
  refine ⟨_, rfl, ?_⟩
  refine bsplit_nd (fun c4 => ?_) (fun c4 => ?_) --  (!r3)
  · rw [if_pos c4]
    exact retWZ H6 (i := 1) rfl rfl
  rw [if_neg (by omega)]
  refine kLet_in ?_
  refine bsplit_dec (fun c3 => ?_) (fun c3 => ?_) --  (decide (r2 < (0 : Int)))
  · rw [if_pos c3]
    exact retWZ H6 (i := 1) rfl rfl
  rw [if_neg c3]
  obtain ⟨k, hk, hlk0⟩ := leftI_some (L := s.units) (by omega)
  rw [hlk0, Int.toNat_natCast, List.getElem?_eq_getElem hk]
  obtain ⟨u, hue⟩ : ∃ u, u = s.units[k] := ⟨_, rfl⟩
  have hmu : u ∈ s.units := by rw [hue]; exact List.getElem_mem _
  have hau := leftI_unit hk hlk0
  rw [← hue] at hau ⊢
  have hin := partU_in (hall u hmu).1 hau
  have hfu := hfit.2 u hmu
  obtain ⟨r, hr⟩ : ∃ r, r = partU u := ⟨_, rfl⟩
  rw [← hr] at hin
  dsimp only
  have hkL : k < L.length := by omega
  obtain ⟨x, hx⟩ : ∃ x, x = L[k] := ⟨_, rfl⟩
  have hxm : x ∈ L := by rw [hx]; exact List.getElem_mem _
  have hxu : x.u = u := by rw [hue, hx]; simp [← hL]
  refine kNil_in ?_
  rw [add_mk]
  refine H6.ldS (i := 2) rfl rfl ?_
  obtain ⟨g, hg, hg1, hg2⟩ := H6.rowSome (i := 3) rfl (by omega)
  subst hg
  refine kIx_at ⟨by omega, by omega⟩ ?_
  simp only [add_mk, Nat.zero_add]
  have cx := H6.cellsEl encUP_ok (i := 3) rfl hkL
  rw [← hx] at cx
  refine ⟨_, _, _, _, _, _, _, _, _, cx, ?_⟩
  have hrr : SlR (CE encR) 3 w6 x.a2 x.u.again := by
    have K := shareAg (R := [_, _, _, _]) H6
    exact K.get.1 x hxm
  refine (sender_part_ct hrr).mono ?_
  rintro _ w9 ⟨rfl, hb9⟩; have H9 := H6.pass hb9; clear H6
  refine ⟨_, _, _, rfl, ?_⟩
  rw [hxu, ← hr]
  refine H9.alloc ?_; clear H9; intro b3 w10 H10
  have H10 := St.lastTo (X := [_, _, _, _]) H10
  simp only [List.cons_append, List.nil_append] at H10
  refine H10.store (i := 4) rfl (by rfl) (by rfl) ?_; clear H10; intro w11 H11
  simp only [List.set_cons_succ, List.set_cons_zero] at H11
  refine ⟨fun p w21 => ∃ (q : Nat) (da : Option Addr) (dc : Nat), p = ⟨q, 0, none⟩ ∧ (pieceU u).data.length ≤ dc ∧ St (fun _ => False) [] w w21 (.blk b0 Ty_api_Sender (encS s a c) :: .blk b1 Ty_api_Sender (encS .zero none 0) :: .blk b Ty_sender_side (encS s (some ⟨g, 0, none⟩) uc) :: .els encUP Ty_api_Unit 5 (some ⟨g, 0, none⟩) uc L :: .blk b3 Ty_api_Range [.int .i64 r.sn, .int .i64 r.f, .int .i64 r.t] :: .blk q Ty_api_Piece (encPc (pieceU u) da dc) :: L.map agR) (fun w => SlR (IntC .u8) 1 w da (pieceU u).data ∧ DatR L w), ?_, ?_⟩
  · rintro _ p w21 ⟨q, da, dc, rfl, hdc, H21⟩
    have H21 := St.skip (X := [_, _, _, _]) H21
    simp only [List.cons_append, List.nil_append] at H21
    have hpl : (pieceU u).data.length ≤ 3000 := by
      have : (pieceU u).data.length ≤ u.data.length := by
        show ((u.data.take _).drop _).length ≤ _
        rw [List.length_drop, List.length_take]; omega
      omega
    obtain ⟨cu, hcu⟩ : ∃ cu, cu = cutP s.lk.bits (pieceU u) size := ⟨_, rfl⟩
    rw [← hcu]
    refine ⟨fun e1 p w50 => e1 = cu.2.2 ∧ ∃ (bp : Nat) (pa : Option Addr) (pc : Nat), p = ⟨bp, 0, none⟩ ∧
      St (fun _ => False) [] w w50 (.blk b0 Ty_api_Sender (encS s a c) :: .blk b1 Ty_api_Sender (encS .zero none 0) :: .blk b Ty_sender_side (encS s (some ⟨g, 0, none⟩) uc) :: .els encUP Ty_api_Unit 5 (some ⟨g, 0, none⟩) uc L :: .blk bp Ty_api_Piece (encPc cu.1 pa pc) :: L.map agR) (fun w => SlR (IntC .u8) 1 w pa cu.1.data ∧ DatR L w), ?_, ?_⟩
    · rintro _ e1 p w50 ⟨rfl, bp, pa, pc, rfl, H50⟩
      refine bsplit_nd (fun c14 => ?_) (fun c14 => ?_)
      · rw [if_pos c14]
        exact retWZ H50 (i := 1) rfl rfl
      have c14 : cu.2.2 = 0 := by omega
      rw [if_neg (by omega)]
      obtain ⟨hqo, hqp⟩ := cut_ok (b := s.lk.bits) (p := pieceU u) (size := size) (by rw [← hcu]; exact c14)
      rw [← hcu] at hqo hqp
      obtain ⟨q1, hq1⟩ : ∃ q1, q1 = cu.1 := ⟨_, rfl⟩
      rw [← hq1] at hqo hqp H50 ⊢
      have hml : q1.data.length ≤ 2054 := by have h6 := hqo.2.2.2.2.2.1; have := hqo.2.2.2.2.2.2; omega
      have hun := unB_sent (hall u hmu).1
      obtain ⟨m, hm⟩ : ∃ m, m = q1.data.length := ⟨_, rfl⟩
      rw [add_mk]
      refine H50.ldS (i := 4) rfl rfl ?_
      rw [← hm]
      have htake : Calls Try.prog N_sender_take #[(.pointer (some ⟨g, k * 5, none⟩)), (.int .i64 (m : Int))] w50 fun e w52 => e = .returned (.tuple #[]) ∧
          ∃ L' : List UP, L'.map (·.u) = s.units.set k (takeU u m) ∧ St (fun _ => False) [] w w52 [.blk b0 Ty_api_Sender (encS s a c), .blk b1 Ty_api_Sender (encS .zero none 0), .blk b Ty_sender_side (encS s (some ⟨g, 0, none⟩) uc), .els encUP Ty_api_Unit 5 (some ⟨g, 0, none⟩) uc L', .blk bp Ty_api_Piece (encPc q1 pa pc)] (fun w => SlR (IntC .u8) 1 w pa q1.data ∧ Dat0 L' w ∧ RngR L' w) := by
        have ha4 : ∀ {w' : World} {P : World → Prop} {T : List Res}, St (fun _ => False) [] w w' (.blk b0 Ty_api_Sender (encS s a c) :: .blk b1 Ty_api_Sender (encS .zero none 0) :: .blk b Ty_sender_side (encS s (some ⟨g, 0, none⟩) uc) :: .els encUP Ty_api_Unit 5 (some ⟨g, 0, none⟩) uc L :: T) P →
            w'.cell? ⟨g, k * 5 + 4, none⟩ = some (.slice x.a2 u.again.length x.c2) := fun H => H.cellEl encUP_ok (i := 3) rfl hkL (j := 4) (by decide) (by rw [← hx, ← hxu]; rfl)
        have hmap : ∀ (z : UP), (L.set k z).map (·.u) = s.units.set k z.u := fun z => by rw [List.map_set, hL]
        have hdat : ∀ {z : UP} {w : World}, z.a = x.a → z.u.data = x.u.data → DatR L w → Dat0 (L.set k z) w := fun h1 h2 h v hv => by
          rcases List.mem_or_eq_of_mem_set hv with hv | rfl
          · exact (h v hv).1
          · rw [h1, h2]; exact (h x hxm).1
        refine F_sender_take_ok g (k * 5) m w50 ?_
        unfold F_sender_take
        refine ⟨_, _, _, ha4 H50, ?_⟩
        refine bsplit_dec (fun c9 => ?_) (fun c9 => ?_)
        · have hag : u.again = [] := List.eq_nil_of_length_eq_zero (by omega)
          have hr2 : r = ⟨u.sn, u.sent, u.data.length⟩ := by rw [hr, partU, hag]
          obtain ⟨z, hz⟩ : ∃ z : UP, z = ⟨takeU u m, x.a, x.c, x.a2, x.c2⟩ := ⟨_, rfl⟩
          have htk : takeU u m = { u with sent := u.sent + m } := by unfold takeU; rw [hag]
          refine ⟨_, H50.cellEl encUP_ok (i := 3) rfl hkL (j := 2) (v := .int .i64 u.sent) (by decide) (by rw [← hx, ← hxu]; rfl), ?_⟩
          refine kW_i64 (by omega) ?_
          refine H50.setEl encUP_ok (i := 3) rfl hkL (j := 2) (by decide) z (by rw [← hx, hz, htk, ← hxu]; rfl) ?_
          clear H50; intro w29 f29 H29
          simp only [List.set_cons_succ, List.set_cons_zero] at H29
          have H31 := shareAg (R := [_, _, _, _, _]) H29
          refine ⟨rfl, L.set k z, by rw [hmap, hz], H31.imp fun w h => ⟨h.2.1, hdat (by rw [hz]) (by rw [hz, htk, hxu]) h.2.2, fun v hv => ?_⟩⟩
          rcases List.mem_or_eq_of_mem_set hv with hv | rfl
          · exact h.1 v hv
          · rw [hz, htk]; have := h.1 x hxm; rw [hxu] at this; exact this
        · obtain ⟨r0, l, hag⟩ : ∃ r0 l, u.again = r0 :: l := by
            cases h : u.again with
            | nil => rw [h] at c9; simp at c9
            | cons r0 l => exact ⟨r0, l, rfl⟩
          have hr0 : r = r0 := by rw [hr, partU, hag]
          have hi : ∀ T : List Res, (.blk b0 Ty_api_Sender (encS s a c) :: .blk b1 Ty_api_Sender (encS .zero none 0) :: .blk b Ty_sender_side (encS s (some ⟨g, 0, none⟩) uc) :: .els encUP Ty_api_Unit 5 (some ⟨g, 0, none⟩) uc L :: .blk bp Ty_api_Piece (encPc q1 pa pc) :: L.map agR : List Res)[k + 5]? = some (.els encR Ty_api_Range 3 x.a2 x.c2 (r0 :: l)) := by
            intro _
            show (L.map agR)[k]? = _
            rw [List.getElem?_map, List.getElem?_eq_getElem hkL, ← hx]
            show some (agR x) = _
            rw [agR, hxu, hag]
          have hi := hi []
          have hcap : (r0 :: l).length ≤ x.c2 := H50.capE hi
          obtain ⟨ga, hga, _, _⟩ := H50.rowSome hi (by simp)
          have hi' := hi
          rw [hga] at hi'
          have el0 : ((⟨ga, 0, none⟩ : Addr).add ((0 : Int).toNat * 3)).add 1 = ⟨ga, 0 * 3 + 1, none⟩ := by rw [add_mk, add_mk]; rfl
          have el2 : ((⟨ga, 0, none⟩ : Addr).add ((0 : Int).toNat * 3)).add 2 = ⟨ga, 0 * 3 + 2, none⟩ := by rw [add_mk, add_mk]; rfl
          refine ⟨_, _, _, ha4 H50, ?_⟩
          rw [hga]
          refine kIx_at ⟨by omega, by omega⟩ ?_
          rw [el0]
          refine ⟨_, H50.cellEl encR_ok hi' (k := 0) (by simp) (j := 1) (v := .int .i64 r.f) (by decide) (by rw [hr0]; rfl), ?_⟩
          refine kW_i64 (by omega) ?_
          refine kIx_at ⟨by omega, by omega⟩ ?_
          rw [el0]
          refine H50.setEl encR_ok hi' (k := 0) (by simp) (j := 1) (by decide) ⟨r0.sn, r.f + m, r0.t⟩ (by rfl) ?_
          clear H50; intro w29 f29 H29
          simp only [List.set_cons_succ, List.set_cons_zero] at H29
          obtain ⟨z1, hz1⟩ : ∃ z1 : UP, z1 = ⟨{ u with again := ⟨r0.sn, r.f + m, r0.t⟩ :: l }, x.a, x.c, x.a2, x.c2⟩ := ⟨_, rfl⟩
          refine H29.drew ?_; clear H29; intro w30 H29
          have hi2 : (.blk b0 Ty_api_Sender (encS s a c) :: .blk b1 Ty_api_Sender (encS .zero none 0) :: .blk b Ty_sender_side (encS s (some ⟨g, 0, none⟩) uc) :: .els encUP Ty_api_Unit 5 (some ⟨g, 0, none⟩) uc L :: .blk bp Ty_api_Piece (encPc q1 pa pc) :: (L.map agR).set k (.els encR Ty_api_Range 3 (some ⟨ga, 0, none⟩) x.c2 (⟨r0.sn, r.f + m, r0.t⟩ :: l)) : List Res)[k + 5]? = some (.els encR Ty_api_Range 3 (some ⟨ga, 0, none⟩) x.c2 (⟨r0.sn, r.f + m, r0.t⟩ :: l)) := by
            show ((L.map agR).set k _)[k]? = _
            rw [List.getElem?_set_self (by rw [List.length_map]; exact hkL)]
          have a4 := ha4 H29
          rw [hga] at a4
          refine ⟨_, _, _, a4, ?_⟩
          refine kIx_at ⟨by omega, by omega⟩ ?_
          rw [el0]
          refine ⟨_, H29.cellEl encR_ok hi2 (k := 0) (by simp) (j := 1) (v := .int .i64 (r.f + m)) (by decide) (by rfl), ?_⟩
          refine ⟨_, _, _, a4, ?_⟩
          refine kIx_at ⟨by omega, by omega⟩ ?_
          rw [el2]
          refine ⟨_, H29.cellEl encR_ok hi2 (k := 0) (by simp) (j := 2) (v := .int .i64 r0.t) (by decide) (by rfl), ?_⟩
          have e1 : (L.map agR).set k (.els encR Ty_api_Range 3 (some ⟨ga, 0, none⟩) x.c2 (⟨r0.sn, r.f + m, r0.t⟩ :: l)) = (L.set k z1).map agR := by
            rw [List.map_set, hz1, ← hga]; rfl
          rw [e1] at H29
          have H30 := shareAg (R := [_, _, _, _, _]) H29
          have rng : ∀ {z : UP} {w : World}, (SlR (CE encR) 3 w x.a2 (⟨r0.sn, r.f + m, r0.t⟩ :: l) → SlR (CE encR) 3 w z.a2 z.u.again) → RngR (L.set k z1) w → RngR (L.set k z) w := fun {z w} hzz h v hv => by
            obtain ⟨j, hj, rfl⟩ := List.getElem_of_mem hv
            have hj' : j < (L.set k z1).length := by simpa using hj
            have h1 := h _ (List.getElem_mem hj')
            by_cases hjk : k = j
            · subst hjk
              simp only [List.getElem_set_self] at h1 ⊢
              rw [hz1] at h1
              exact hzz h1
            · simp only [List.getElem_set_ne hjk] at h1 ⊢
              exact h1
          refine bsplit_dec (fun c8 => ?_) (fun c8 => ?_)
          · refine ⟨_, _, _, a4, ?_⟩
            refine ⟨⟨by omega, by omega⟩, ?_⟩
            have htk : takeU u m = { u with again := l } := by unfold takeU; rw [hag]; rw [hr0] at c8; exact if_pos c8
            obtain ⟨z, hz⟩ : ∃ z : UP, z = ⟨takeU u m, x.a, x.c, slAddr x.c2 1 3 x.a2, x.c2 - 1⟩ := ⟨_, rfl⟩
            rw [← hga]
            refine H30.setEl encUP_ok (i := 3) rfl hkL (j := 4) (by decide) z (by rw [← hx, hz, htk, hag, ← hxu]; rfl) ?_
            clear H30; intro w31 f31 H31
            simp only [List.set_cons_succ, List.set_cons_zero] at H31
            exact ⟨rfl, L.set k z, by rw [hmap, hz], H31.imp fun w h => ⟨h.2.1, hdat (by rw [hz]) (by rw [hz, htk, hxu]) h.2.2, rng (fun hs => by rw [hz, htk]; exact hs.tailE (l := 1) hcap) h.1⟩⟩
          · have htk : takeU u m = { u with again := ⟨r0.sn, r.f + m, r0.t⟩ :: l } := by unfold takeU; rw [hag]; rw [hr0] at c8 ⊢; exact if_neg c8
            have e2 : (.els encUP Ty_api_Unit 5 (some ⟨g, 0, none⟩) uc L : Res) = .els encUP Ty_api_Unit 5 (some ⟨g, 0, none⟩) uc (L.set k z1) := by
              have e3 : encUP z1 = encUP L[k] := by rw [← hx, hz1]; simp only [encUP, encU, hxu, hag, List.length_cons]
              have e4 : (L.set k z1).map encUP = L.map encUP := by
                rw [List.map_set, e3]
                exact list_set_self (by rw [List.getElem?_map, List.getElem?_eq_getElem hkL]; rfl)
              simp only [Res.els, List.length_set, List.flatMap_def, e4]
            rw [e2] at H30
            exact ⟨rfl, L.set k z1, by rw [hmap, hz1, htk], H30.imp fun w h => ⟨h.2.1, hdat (by rw [hz1]) (by rw [hz1, hxu]) h.2.2, h.1⟩⟩
      refine htake.mono ?_; clear htake H50
      rintro _ w33 ⟨rfl, L', hL', H33⟩
      refine ⟨rfl, ?_⟩
      have hpc1 := okB_pieces hok
      have hev := hlk.2.1
      obtain ⟨s1, hs1'⟩ : ∃ s1 : Sd, s1 = { s with units := s.units.set k (takeU u m), pieces := s.pieces + 1 } := ⟨_, rfl⟩
      have hu1 : s1.units = s.units.set k (takeU u m) := by rw [hs1']
      have hl1 : s1.lk = s.lk := by rw [hs1']
      have hn1 : s1.units.length = s.units.length := by rw [hu1, List.length_set]
      have hbT : buildT s k u q1 = if s1.pieces = s.lk.every ∨ leftI s1.units < 0 then (askS s1, (encP s.lk.bits { q1 with poll := 1 }).1, 0) else (s1, (encP s.lk.bits q1).1, 0) := by rw [hs1', hm]; rfl
      refine kNil_in ?_
      rw [add_mk]
      refine H33.ld (i := 2) rfl rfl ?_
      refine kW_i64 (by omega) ?_
      refine kNil_in ?_
      rw [add_mk]
      refine H33.set (i := 2) rfl (by show 0 + 9 < 13; decide) ?_; clear H33; intro w34 H34
      simp only [List.set_cons_succ, List.set_cons_zero] at H34
      have e9 : (encS s (some ⟨g, 0, none⟩) uc).set (0 + 9) (.int .i64 (s.pieces + 1)) = encS s1 (some ⟨g, 0, none⟩) uc := by
        rw [hs1']; simp only [encS, List.length_set]; rfl
      rw [e9] at H34
      have hUn : ∀ {w' : World}, Dat0 L' w' → RngR L' w' → SlR (CE encUP) 5 w' (some ⟨g, 0, none⟩) L' → UnR w' (some ⟨g, 0, none⟩) s1.units := fun h1 h2 h3 => by
        rw [hu1, ← hL']; exact up_unR h3 h1 h2
      refine ⟨fun w42 => ∃ (t : Sd) (q2 : Pc), buildT s k u q1 = (t, (encP s.lk.bits q2).1, 0) ∧ (encP s.lk.bits q2).2 = 0 ∧ q2.data = q1.data ∧ t.units = s1.units ∧ t.lk = s.lk ∧ St (fun _ => False) [] w w42 [.blk b0 Ty_api_Sender (encS s a c), .blk b1 Ty_api_Sender (encS .zero none 0), .blk b Ty_sender_side (encS t (some ⟨g, 0, none⟩) uc), .els encUP Ty_api_Unit 5 (some ⟨g, 0, none⟩) uc L', .blk bp Ty_api_Piece (encPc q2 pa pc)] (fun w => SlR (IntC .u8) 1 w pa q1.data ∧ Dat0 L' w ∧ RngR L' w), ?_, ?_⟩
      · rintro _ w42 ⟨t, q2, hbt, hq0, hqd, htu, htl, H42⟩
        refine H42.drew ?_; clear H42; intro w43 H43
        refine ⟨(· < w43.heap.size), ?_⟩
        refine kNil_in ?_
        refine H43.ld (i := 2) rfl rfl ?_
        refine ⟨_, _, _, _, _, _, _, H43.cells (i := 4) rfl, ?_⟩
        refine (segment_Encode_ct (d := q2.data) (by rw [hqd]; exact H43.get.1) (by rw [hqd]; omega)).mono ?_
        rintro _ w44 ⟨ba, bc, hbl, rfl, K44⟩
        have hb44 := K44.below
        have H44 := H43.callF K44; clear H43
        simp only [List.append_nil] at H44
        refine ⟨_, _, _, _, rfl, ?_⟩
        refine ⟨hb44.keeps, ?_⟩
        refine kNil_in ?_
        refine ⟨_, _, _, _, _, _, _, _, _, _, _, _, _, _, _, H44.cells (i := 2) rfl, ?_⟩
        refine H44.store (i := 1) rfl (by rfl) (by rfl) ?_; clear H44; intro w45 H45
        simp only [List.set_cons_succ, List.set_cons_zero] at H45
        refine ⟨_, _, _, _, _, _, _, _, _, _, _, _, _, _, _, H45.cells (i := 1) rfl, ?_⟩
        rw [hbt]
        have hE : encP t.lk.bits ⟨q2.sn, q2.part, q2.poll, q2.off, q2.data⟩ = encP s.lk.bits q2 := by rw [htl]
        rw [hE] at H45 hbl ⊢
        rw [hq0]
        refine ⟨_, _, _, _, hbl, rfl, (H45.shareE encUP_ok (i := 3) rfl).fin.imp fun w h => ⟨?_, h.2.1⟩⟩
        rw [htu]
        exact hUn h.2.2.2.1 h.2.2.2.2 h.1
      · have hask : ∀ {w' : World} {K : Value → World → Prop}, (s1.pieces = s.lk.every ∨ leftI s1.units < 0) → St (fun _ => False) [] w w' [.blk b0 Ty_api_Sender (encS s a c), .blk b1 Ty_api_Sender (encS .zero none 0), .blk b Ty_sender_side (encS s1 (some ⟨g, 0, none⟩) uc), .els encUP Ty_api_Unit 5 (some ⟨g, 0, none⟩) uc L', .blk bp Ty_api_Piece (encPc q1 pa pc)] (fun w => SlR (IntC .u8) 1 w pa q1.data ∧ Dat0 L' w ∧ RngR L' w) →
            Calls Try.prog N_sender_side_ask #[(.pointer (some ⟨b, 0, none⟩)), (.pointer (some ⟨bp, 0, none⟩))] w' fun e w42 => e = .returned (.tuple #[]) ∧ ∃ (t : Sd) (q2 : Pc), buildT s k u q1 = (t, (encP s.lk.bits q2).1, 0) ∧ (encP s.lk.bits q2).2 = 0 ∧ q2.data = q1.data ∧ t.units = s1.units ∧ t.lk = s.lk ∧ St (fun _ => False) [] w w42 [.blk b0 Ty_api_Sender (encS s a c), .blk b1 Ty_api_Sender (encS .zero none 0), .blk b Ty_sender_side (encS t (some ⟨g, 0, none⟩) uc), .els encUP Ty_api_Unit 5 (some ⟨g, 0, none⟩) uc L', .blk bp Ty_api_Piece (encPc q2 pa pc)] (fun w => SlR (IntC .u8) 1 w pa q1.data ∧ Dat0 L' w ∧ RngR L' w) := fun {w' K} hc H36 => by
          rw [if_pos hc] at hbT
          refine F_sender_side_ask_ok b 0 bp 0 w' ?_
          unfold F_sender_side_ask
          refine H36.set (i := 4) rfl (by show 0 + 2 < 5; decide) ?_; clear H36; intro w37 H37
          simp only [List.set_cons_succ, List.set_cons_zero] at H37
          refine H37.ld (i := 2) rfl rfl ?_
          refine H37.set (i := 2) rfl (by show 0 + 9 < 13; decide) ?_; clear H37; intro w38 H38
          simp only [List.set_cons_succ, List.set_cons_zero] at H38
          refine H38.set (i := 2) rfl (by show 0 + 11 < 13; decide) ?_; clear H38; intro w39 H39
          simp only [List.set_cons_succ, List.set_cons_zero] at H39
          refine H39.ldS (i := 2) rfl rfl ?_
          refine ⟨fun i => ((s1.units.length - i).toNat, fun w39 => ∃ j : Nat, i = j ∧ j ≤ s1.units.length ∧ St (fun _ => False) [] w w39 [.blk b0 Ty_api_Sender (encS s a c), .blk b1 Ty_api_Sender (encS .zero none 0), .blk b Ty_sender_side (encS { s1 with pieces := 0, left := s1.lk.poll, poll := lastSn (s1.units.take j) s1.poll } (some ⟨g, 0, none⟩) uc), .els encUP Ty_api_Unit 5 (some ⟨g, 0, none⟩) uc L', .blk bp Ty_api_Piece (encPc { q1 with poll := 1 } pa pc)] (fun w => SlR (IntC .u8) 1 w pa q1.data ∧ Dat0 L' w ∧ RngR L' w)), ⟨0, rfl, by omega, H39⟩, ?_⟩
          clear H39
          rintro _ i w39 ⟨j, rfl, hj39, H39⟩
          refine bsplit_dec (fun c12 => ?_) (fun c12 => ?_)
          · have hjl : j < s1.units.length := by omega
            have hstp := lastSn_step (d := s1.poll) hjl
            have hu39 := hUn H39.get.2.1 H39.get.2.2 (H39.slE encUP_ok (i := 3) rfl)
            refine ixU hu39 j rfl hjl fun b8 hb8 => ?_
            obtain ⟨_, _, _, _, hb8, _, _⟩ := hb8
            refine ⟨_, _, _, _, _, _, _, _, _, hb8, ?_⟩
            refine H39.alloc ?_; clear H39; intro b9 w40 H40
            simp only [List.cons_append, List.nil_append] at H40
            refine H40.store (i := 5) rfl (by rfl) (by rfl) ?_; clear H40; intro w41 H41
            simp only [List.set_cons_succ, List.set_cons_zero] at H41
            refine H41.ld (i := 5) rfl rfl ?_
            refine bsplit_dec (fun c11 => ?_) (fun c11 => ?_)
            · rw [if_pos c11] at hstp
              refine H41.ld (i := 5) rfl rfl ?_
              refine H41.set (i := 2) rfl (by show 0 + 10 < 13; decide) ?_; clear H41; intro w42 H42
              simp only [List.set_cons_succ, List.set_cons_zero] at H42
              refine kW_i64 (by omega) ?_
              exact ⟨⟨j + 1, by omega, by omega, by rw [hstp]; exact St.dropLast (R := [_, _, _, _, _]) H42⟩, by first | omega | (dsimp only; omega)⟩
            · rw [if_neg c11] at hstp
              refine kW_i64 (by omega) ?_
              exact ⟨⟨j + 1, by omega, by omega, by rw [hstp]; exact St.dropLast (R := [_, _, _, _, _]) H41⟩, by first | omega | (dsimp only; omega)⟩
          · obtain rfl : j = s1.units.length := by omega
            rw [List.take_length] at H39
            have hok2 : Pc.ok s.lk.bits { q1 with poll := 1 } := ⟨hqo.1, hqo.2.1, hqo.2.2.1, ⟨by show (0 : Int) ≤ 1; decide, by show (1 : Int) ≤ 1; decide⟩, hqo.2.2.2.2⟩
            exact ⟨rfl, askS s1, { q1 with poll := 1 }, hbT, by rw [encP, if_pos hok2], rfl, rfl, hl1, H39⟩
        refine H34.drew ?_; clear H34; intro w35 H35
        refine ⟨(· < w35.heap.size), ?_⟩
        refine kNil_in ?_
        rw [add_mk]
        refine H35.ld (i := 2) (x := s1.pieces) rfl rfl ?_
        refine kNil_in ?_
        rw [add_mk]
        refine H35.ld (i := 2) (x := s1.lk.every) rfl rfl ?_
        refine bsplit_dec (fun c10 => ?_) (fun c10 => ?_)
        · exact hask (K := fun _ _ => True) (.inl (by rw [c10, hl1])) H35
        · refine (sender_side_left_ct (s := s1) (b := b) (o := 0) ⟨_, uc, H35.cells (i := 2) rfl, hUn H35.get.2.1 H35.get.2.2 (H35.slE encUP_ok (i := 3) rfl)⟩ (by omega)).mono ?_
          rintro _ w36 ⟨rfl, hb36⟩; have H36 := H35.pass hb36; clear H35
          refine ⟨_, rfl, ?_⟩
          refine ⟨hb36.keeps, ?_⟩
          refine bsplit_dec (fun c11 => ?_) (fun c11 => ?_)
          · exact hask (K := fun _ _ => True) (.inr c11) H36
          · rw [if_neg (fun h => by
              rcases h with h | h
              · exact c10 (by rw [h, hl1])
              · exact c11 h)] at hbT
            refine ⟨s1, q1, hbT, by rw [encP, if_pos hqo], rfl, rfl, hl1, H36⟩
    · -- the cut, in whatever order
      refine H21.drew ?_; clear H21; intro w22 H22
      refine ⟨(· < w22.heap.size), ?_⟩
      refine kNil_in ?_
      refine ⟨H22.lt (i := 2) rfl rfl, ?_⟩
      refine H22.ld (i := 2) rfl rfl ?_
      refine ⟨H22.lt (i := 4) rfl rfl, ?_⟩
      refine ⟨_, _, _, _, _, _, _, H22.cells (i := 4) rfl, ?_⟩
      have hcut : ∀ {w' : World} (T : List Res) {P : World → Prop} {K : Ending → World → Prop}, St (fun _ => False) [] w w' T (fun w => SlR (IntC .u8) 1 w da (pieceU u).data ∧ P w) →
          (∀ pa pc pa' pc' w'', Below w'.heap.size w' w'' → St (fun _ => False) [] w w'' T (fun w => SlR (IntC .u8) 1 w pa cu.1.data ∧ P w) → K (.returned (.tuple #[(.agg #[.int .i64 cu.1.sn, .int .i64 cu.1.part, .int .i64 cu.1.poll, .int .i64 cu.1.off, .slice pa cu.1.data.length pc]), (.agg #[.int .i64 cu.2.1.sn, .int .i64 cu.2.1.part, .int .i64 cu.2.1.poll, .int .i64 cu.2.1.off, .slice pa' cu.2.1.data.length pc']), .int .i64 cu.2.2])) w'') →
          Calls Try.prog N_segment_Cut #[(.int .i64 s.lk.bits), (.agg #[.int .i64 (pieceU u).sn, .int .i64 (pieceU u).part, .int .i64 (pieceU u).poll, .int .i64 (pieceU u).off, .slice da (pieceU u).data.length dc]), (.int .i64 size)] w' K := fun {w'} T {P K} H hK => by
        refine (segment_Cut_ct H.get.1 (by omega) hdc hsz).mono ?_
        rintro _ w25 ⟨pa, pc, pa', pc', hpc, hpc', rfl, K25⟩
        have H25 := H.callF K25
        simp only [List.append_nil] at H25
        have := hK pa pc pa' pc' w25 K25.below (H25.imp fun w h => ⟨by rw [hcu]; exact h.1.1, h.2.2⟩)
        rw [hcu] at this
        exact this
      have fin2 : ∀ {w' : World} {bp bq : Nat} {pa pa' : Option Addr} {pc pc' : Nat} {cs1 cs2 : List Value}, cs1.length = 5 → cs2.length = 5 → Below w22.heap.size w22 w' → w22.heap.size ≤ bp → w22.heap.size ≤ bq →
          St (fun _ => False) [] w w' (.blk b0 Ty_api_Sender (encS s a c) :: .blk b1 Ty_api_Sender (encS .zero none 0) :: .blk b Ty_sender_side (encS s (some ⟨g, 0, none⟩) uc) :: .els encUP Ty_api_Unit 5 (some ⟨g, 0, none⟩) uc L :: .blk q Ty_api_Piece (encPc (pieceU u) da dc) :: .blk bp Ty_api_Piece cs1 :: .blk bq Ty_api_Piece cs2 :: L.map agR) (fun w => SlR (IntC .u8) 1 w pa cu.1.data ∧ DatR L w) →
          sxStore w' ⟨bp, 0, none⟩ 0 (encPc cu.1 pa pc) fun w48 => KeepsB (· < w22.heap.size) w22 w48 ∧ sxStore w48 ⟨bq, 0, none⟩ 0 (encPc cu.2.1 pa' pc') fun w49 => KeepsB (· < w22.heap.size) w22 w49 ∧
            (cu.2.2 = cu.2.2 ∧ ∃ (bp' : Nat) (pa : Option Addr) (pc : Nat), (⟨bp, 0, none⟩ : Addr) = ⟨bp', 0, none⟩ ∧
              St (fun _ => False) [] w w49 (.blk b0 Ty_api_Sender (encS s a c) :: .blk b1 Ty_api_Sender (encS .zero none 0) :: .blk b Ty_sender_side (encS s (some ⟨g, 0, none⟩) uc) :: .els encUP Ty_api_Unit 5 (some ⟨g, 0, none⟩) uc L :: .blk bp' Ty_api_Piece (encPc cu.1 pa pc) :: L.map agR) (fun w => SlR (IntC .u8) 1 w pa cu.1.data ∧ DatR L w)) := fun {w' bp bq pa pa' pc pc' cs1 cs2} h1 h2 hb hbp hbq H => by
        refine H.storeF (i := 5) rfl (by rw [h1]; rfl) (by rfl) ?_; intro w48 f48 H48
        simp only [List.set_cons_succ, List.set_cons_zero] at H48
        have hb48 := hb.frs f48 (by simpa using hbp) hb.size
        refine ⟨hb48.keeps, ?_⟩
        refine H48.storeF (i := 6) rfl (by rw [h2]; rfl) (by rfl) ?_; intro w49 f49 H49
        simp only [List.set_cons_succ, List.set_cons_zero] at H49
        have hb49 := hb48.frs f49 (by simpa using hbq) hb48.size
        refine ⟨hb49.keeps, rfl, bp, pa, pc, rfl, ?_⟩
        have H50 := St.skip (X := [_, _, _, _]) H49
        exact St.skip (X := [_, _, _, _, _]) H50
      have H22 : St (fun _ => False) [] w w22 (.blk b0 Ty_api_Sender (encS s a c) :: .blk b1 Ty_api_Sender (encS .zero none 0) :: .blk b Ty_sender_side (encS s (some ⟨g, 0, none⟩) uc) :: .els encUP Ty_api_Unit 5 (some ⟨g, 0, none⟩) uc L :: .blk q Ty_api_Piece (encPc (pieceU u) da dc) :: L.map agR) (fun w => SlR (IntC .u8) 1 w da (pieceU u).data ∧ DatR L w) := H22
      have hb0 := Below.refl w22.heap.size w22
      refine ⟨?_, ?_, ?_, trivial⟩
      · refine hcut _ H22 fun pa pc pa' pc' wc hbc Hc => ?_
        refine ⟨_, _, _, _, _, _, _, _, _, _, _, _, _, _, _, rfl, ?_⟩
        have jc := below_step hb0 (Nat.le_refl _) hbc
        have jz := jc.size
        refine ⟨jc.keeps, ?_, ?_, trivial⟩
        · refine Hc.allocN ?_; intro x1 v1 e1 k1 K1
          have K1 := St.lastTo (X := [_, _, _, _, _]) K1
          simp only [List.cons_append, List.nil_append] at K1
          have j1 := below_step jc (Nat.le_refl _) k1
          refine ⟨j1.keeps, ?_⟩
          refine K1.allocN ?_; intro x2 v2 e2 k2 K2
          have K2 := St.lastTo (X := [_, _, _, _, _, _]) K2
          simp only [List.cons_append, List.nil_append] at K2
          have j2 := below_step j1 (Nat.le_refl _) k2
          refine ⟨j2.keeps, ?_⟩
          have jz1 := j1.size
          exact fin2 rfl rfl j2 (by omega) (by omega) K2
        · refine Hc.allocN ?_; intro x1 v1 e1 k1 K1
          have K1 := St.lastTo (X := [_, _, _, _, _]) K1
          simp only [List.cons_append, List.nil_append] at K1
          have j1 := below_step jc (Nat.le_refl _) k1
          refine ⟨j1.keeps, ?_⟩
          refine K1.allocN ?_; intro x2 v2 e2 k2 K2
          have K2 := St.lastTo (X := [_, _, _, _, _]) K2
          simp only [List.cons_append, List.nil_append] at K2
          have j2 := below_step j1 (Nat.le_refl _) k2
          refine ⟨j2.keeps, ?_⟩
          have jz1 := j1.size
          exact fin2 rfl rfl j2 (by omega) (by omega) K2
      · refine H22.allocN ?_; intro x1 v1 e1 k1 K1
        have K1 := St.lastTo (X := [_, _, _, _, _]) K1
        simp only [List.cons_append, List.nil_append] at K1
        have j1 := below_step hb0 (Nat.le_refl _) k1
        have jz1 := j1.size
        refine ⟨j1.keeps, ?_, ?_, trivial⟩
        · refine hcut _ K1 fun pa pc pa' pc' wc hbc Hc => ?_
          refine ⟨_, _, _, _, _, _, _, _, _, _, _, _, _, _, _, rfl, ?_⟩
          have jc := below_step j1 (Nat.le_refl _) hbc
          have jz := jc.size
          refine ⟨jc.keeps, ?_⟩
          refine Hc.allocN ?_; intro x2 v2 e2 k2 K2
          have K2 := St.lastTo (X := [_, _, _, _, _, _]) K2
          simp only [List.cons_append, List.nil_append] at K2
          have j2 := below_step jc (Nat.le_refl _) k2
          refine ⟨j2.keeps, ?_⟩
          exact fin2 rfl rfl j2 (by omega) (by omega) K2
        · refine K1.allocN ?_; intro x2 v2 e2 k2 K2
          have K2 := St.lastTo (X := [_, _, _, _, _, _]) K2
          simp only [List.cons_append, List.nil_append] at K2
          have j2 := below_step j1 (Nat.le_refl _) k2
          refine ⟨j2.keeps, ?_⟩
          refine hcut _ K2 fun pa pc pa' pc' wc hbc Hc => ?_
          refine ⟨_, _, _, _, _, _, _, _, _, _, _, _, _, _, _, rfl, ?_⟩
          have jc := below_step j2 (Nat.le_refl _) hbc
          refine ⟨jc.keeps, ?_⟩
          exact fin2 rfl rfl jc (by omega) (by omega) Hc
      · refine H22.allocN ?_; intro x1 v1 e1 k1 K1
        have K1 := St.lastTo (X := [_, _, _, _, _]) K1
        simp only [List.cons_append, List.nil_append] at K1
        have j1 := below_step hb0 (Nat.le_refl _) k1
        have jz1 := j1.size
        refine ⟨j1.keeps, ?_, ?_, trivial⟩
        · refine hcut _ K1 fun pa pc pa' pc' wc hbc Hc => ?_
          refine ⟨_, _, _, _, _, _, _, _, _, _, _, _, _, _, _, rfl, ?_⟩
          have jc := below_step j1 (Nat.le_refl _) hbc
          have jz := jc.size
          refine ⟨jc.keeps, ?_⟩
          refine Hc.allocN ?_; intro x2 v2 e2 k2 K2
          have K2 := St.lastTo (X := [_, _, _, _, _]) K2
          simp only [List.cons_append, List.nil_append] at K2
          have j2 := below_step jc (Nat.le_refl _) k2
          refine ⟨j2.keeps, ?_⟩
          exact fin2 rfl rfl j2 (by omega) (by omega) K2
        · refine K1.allocN ?_; intro x2 v2 e2 k2 K2
          have K2 := St.lastTo (X := [_, _, _, _, _]) K2
          simp only [List.cons_append, List.nil_append] at K2
          have j2 := below_step j1 (Nat.le_refl _) k2
          refine ⟨j2.keeps, ?_⟩
          refine hcut _ K2 fun pa pc pa' pc' wc hbc Hc => ?_
          refine ⟨_, _, _, _, _, _, _, _, _, _, _, _, _, _, _, rfl, ?_⟩
          have jc := below_step j2 (Nat.le_refl _) hbc
          refine ⟨jc.keeps, ?_⟩
          exact fin2 rfl rfl jc (by omega) (by omega) Hc
  · have hpd : (pieceU u).data = (u.data.drop r.f.toNat).take (r.t.toNat - r.f.toNat) := by
      show (u.data.take (partU u).t.toNat).drop (partU u).f.toNat = _
      rw [← hr, List.drop_take]
    have hpl : (pieceU u).data.length = r.t.toNat - r.f.toNat := by rw [hpd, List.length_take, List.length_drop]; omega
    refine H11.drew ?_; clear H11; intro w12 H12
    obtain ⟨hxd, hxc⟩ := H12.get.1 x hxm
    rw [hxu] at hxd hxc
    refine ⟨(· < w12.heap.size), ?_⟩
    have c0 := H12.cellEl encUP_ok (i := 3) rfl hkL (j := 0) (v := .int .i64 u.sn) (by decide) (by rw [← hx, ← hxu]; rfl)
    have c1 := H12.cellEl encUP_ok (i := 3) rfl hkL (j := 1) (v := .slice x.a u.data.length x.c) (by decide) (by rw [← hx, ← hxu]; rfl)
    have l4 := H12.lt (i := 4) rfl rfl
    refine ⟨cell_lt c0, ?_⟩
    refine ⟨_, c0, ?_⟩
    refine ⟨l4, ?_⟩
    refine H12.ld (i := 4) rfl rfl ?_
    refine ⟨l4, ?_⟩
    refine H12.ld (i := 4) rfl rfl ?_
    refine ⟨cell_lt c1, ?_⟩
    refine ⟨_, _, _, c1, ?_⟩
    refine ⟨l4, ?_⟩
    refine H12.ld (i := 4) rfl rfl ?_
    refine ⟨cell_lt c1, ?_⟩
    refine ⟨_, _, _, c1, ?_⟩
    refine ⟨l4, ?_⟩
    refine H12.ld (i := 4) rfl rfl ?_
    refine ⟨l4, ?_⟩
    refine H12.ld (i := 4) rfl rfl ?_
    refine ⟨⟨by omega, by omega⟩, ?_⟩
    refine ⟨⟨by omega, by omega⟩, ?_⟩
    have hda : ∀ w, DatR L w → SlR (IntC .u8) 1 w (slAddr x.c r.f.toNat 1 x.a) (pieceU u).data := fun w h => by
      have h1 := (h x hxm).1
      rw [hxu] at h1
      rw [hpd]; exact h1.cutE hxc _
    have epc : [(.int .i64 u.sn), (.int .i64 (partOf (decide (r.f = 0)) (decide (r.t = u.data.length)))), (.int .i64 (0 : Int)), (.int .i64 r.f), (.slice (slAddr x.c r.f.toNat 1 x.a) (r.t.toNat - r.f.toNat) (x.c - r.f.toNat))] = encPc (pieceU u) (slAddr x.c r.f.toNat 1 x.a) (x.c - r.f.toNat) := by
      rw [← hpl]; unfold encPc; rw [hr]; rfl
    -- the piece, stored in a block of its own
    have fin : ∀ {w' : World} {bq : Nat} {cs : List Value}, cs.length = 5 → St (fun _ => False) [] w w' ((.blk b0 Ty_api_Sender (encS s a c) :: .blk b1 Ty_api_Sender (encS .zero none 0) :: .blk b Ty_sender_side (encS s (some ⟨g, 0, none⟩) uc) :: .els encUP Ty_api_Unit 5 (some ⟨g, 0, none⟩) uc L :: .blk b3 Ty_api_Range [.int .i64 r.sn, .int .i64 r.f, .int .i64 r.t] :: L.map agR) ++ [.blk bq Ty_api_Piece cs]) (fun w => DatR L w ∧ True) →
        sxStore w' ⟨bq, 0, none⟩ 0 [(.int .i64 u.sn), (.int .i64 (partOf (decide (r.f = 0)) (decide (r.t = u.data.length)))), (.int .i64 (0 : Int)), (.int .i64 r.f), (.slice (slAddr x.c r.f.toNat 1 x.a) (r.t.toNat - r.f.toNat) (x.c - r.f.toNat))] fun w21 =>
          ∃ (q : Nat) (da : Option Addr) (dc : Nat), (⟨bq, 0, none⟩ : Addr) = ⟨q, 0, none⟩ ∧ (pieceU u).data.length ≤ dc ∧ St (fun _ => False) [] w w21 (.blk b0 Ty_api_Sender (encS s a c) :: .blk b1 Ty_api_Sender (encS .zero none 0) :: .blk b Ty_sender_side (encS s (some ⟨g, 0, none⟩) uc) :: .els encUP Ty_api_Unit 5 (some ⟨g, 0, none⟩) uc L :: .blk b3 Ty_api_Range [.int .i64 r.sn, .int .i64 r.f, .int .i64 r.t] :: .blk q Ty_api_Piece (encPc (pieceU u) da dc) :: L.map agR) (fun w => SlR (IntC .u8) 1 w da (pieceU u).data ∧ DatR L w) := fun {w' bq cs} hcs H => by
      have H1 := St.lastTo (X := [_, _, _, _, _]) H
      simp only [List.cons_append, List.nil_append] at H1
      rw [epc]
      refine H1.store (i := 5) rfl (by rw [hcs]; rfl) (by rfl) ?_; intro w21 H2
      simp only [List.set_cons_succ, List.set_cons_zero] at H2
      exact ⟨bq, _, _, rfl, by omega, H2.imp fun w h => ⟨hda w h.1, h.1⟩⟩
    refine ⟨?_, ?_, trivial⟩
    · refine segment_Part_ct.mono ?_
      rintro _ w16 ⟨rfl, hb16⟩; have H16 := H12.pass hb16
      refine ⟨_, rfl, ?_⟩
      refine ⟨hb16.keeps, ?_⟩
      refine ⟨?_, ?_, trivial⟩
      · refine ⟨hb16.keeps, ?_⟩
        refine H16.allocB ?_; intro b6 w19 hb19 H19
        refine ⟨(below_step hb16 (Nat.le_refl _) hb19).keeps, ?_⟩
        exact fin rfl H19
      · refine H16.allocB ?_; intro b6 w19 hb19 H19
        refine ⟨(below_step hb16 (Nat.le_refl _) hb19).keeps, ?_⟩
        refine ⟨(below_step hb16 (Nat.le_refl _) hb19).keeps, ?_⟩
        exact fin rfl H19
    · refine H12.allocB ?_; intro b4 w13 hb13 H13
      refine ⟨hb13.keeps, ?_⟩
      refine segment_Part_ct.mono ?_
      rintro _ w14 ⟨rfl, hb14⟩; have H14 := H13.pass hb14
      refine ⟨_, rfl, ?_⟩
      replace hb14 := below_step hb13 (Nat.le_refl _) hb14
      refine ⟨hb14.keeps, ?_⟩
      refine ⟨hb14.keeps, ?_⟩
      exact fin rfl H14
end Go.Proofs.Ytmhggobilcmdmaa
namespace Go.Proofs.Ytmhggobilcmdmaa
open Go.Sx Go.RowKit
set_option maxRecDepth 100000

theorem RetO.fresh {w w' : World} {x : Sd} {E : Int} {e : Ending} (h : RetO w x E e w') : ∃ a c, e = .returned (.tuple #[aggS x a c, .int .i64 E]) ∧ Fresh w w' fun w => UnR w a x.units := by
  obtain ⟨a, c, L, hL, he, H⟩ := h
  have K := (shareAg (R := [.els encUP Ty_api_Unit 5 a c L]) H).shareE encUP_ok (i := 0) rfl
  exact ⟨a, c, he, K.fin.imp fun w h => by rw [← hL]; exact up_unR h.1 h.2.2.out h.2.1⟩

/-! ## What the steps leave behind can be read -/
def GU (L : List Un) : Prop := SmU L ∧ ∀ u ∈ L, Bytes u.data
theorem gu_nil : GU [] := ⟨⟨by simp, fun u hu => by simp at hu⟩, fun u hu => by simp at hu⟩
theorem gu_zero : GU Sd.zero.units := gu_nil
theorem gu_of {L L' : List Un} {n : Nat} (h : GU L) (hn : n ≤ 1000000) (hl : L'.length ≤ L.length) (hm : ∀ u ∈ L', ∃ v ∈ L, u.data = v.data ∧ (u.again.length ≤ v.again.length ∨ u.again.length ≤ n)) : GU L' := by
  obtain ⟨⟨h1, h2⟩, h3⟩ := h
  refine ⟨⟨by omega, fun u hu => ?_⟩, fun u hu => ?_⟩
  · obtain ⟨v, hv, e, h⟩ := hm u hu
    have := h2 v hv
    rw [e]
    omega
  · obtain ⟨v, hv, e, _⟩ := hm u hu
    rw [e]; exact h3 v hv
theorem sub_gu {s : Sd} {d : List Int} (h : GU s.units) (hd : Bytes d) : GU (subS s d (begE s)).1.units := by
  unfold subS
  split
  · exact gu_zero
  · rename_i hE
    split
    · exact gu_zero
    · rename_i hl
      split
      · exact gu_zero
      · obtain ⟨hok, _⟩ := begE_ok (Decidable.not_not.1 hE)
        have hf := (okB_fit hok).1.1
        obtain ⟨⟨h1, h2⟩, h3⟩ := h
        refine ⟨⟨by simp only [List.length_append, List.length_cons, List.length_nil]; omega, fun u hu => ?_⟩, fun u hu => ?_⟩
        · rcases List.mem_append.1 hu with hu | hu
          · exact h2 u hu
          · simp at hu; subst hu; simp; omega
        · rcases List.mem_append.1 hu with hu | hu
          · exact h3 u hu
          · simp at hu; subst hu; exact hd
theorem takeU_data (u : Un) (n : Int) : (takeU u n).data = u.data ∧ (takeU u n).sn = u.sn ∧ (takeU u n).again.length ≤ u.again.length := by
  unfold takeU
  cases h : u.again with
  | nil => exact ⟨rfl, rfl, by simp [h]⟩
  | cons r l => dsimp only; split <;> exact ⟨rfl, rfl, by simp⟩
theorem mem_set_of {α : Type} {L : List α} {k : Nat} {x u : α} (h : u ∈ L.set k x) : u ∈ L ∨ (u = x ∧ k < L.length) := by
  rcases List.mem_or_eq_of_mem_set h with h1 | h1
  · exact .inl h1
  · by_cases hk : k < L.length
    · exact .inr ⟨h1, hk⟩
    · rw [List.set_eq_of_length_le (by omega)] at h; exact .inl h
theorem build_gu {s : Sd} {size : Int} (h : GU s.units) : GU (buildS s size (begE s)).1.units := by
  unfold buildS
  split
  · exact gu_zero
  · split
    · exact gu_zero
    · split
      · exact gu_zero
      · split
        · exact gu_zero
        · rename_i u hu
          split
          · exact gu_zero
          · have key : GU (s.units.set (leftI s.units).toNat (takeU u (cutP s.lk.bits (pieceU u) size).1.data.length)) := by
              refine gu_of (n := 0) h (by omega) (by simp) fun v hv => ?_
              have hum : u ∈ s.units := List.mem_of_getElem? hu
              rcases mem_set_of hv with hv | ⟨rfl, _⟩
              · exact ⟨v, hv, rfl, .inl (Nat.le_refl _)⟩
              · exact ⟨u, hum, (takeU_data u _).1, .inl (takeU_data u _).2.2⟩
            unfold buildT
            dsimp only
            split <;> exact key
theorem tick_gu {s : Sd} (h : GU s.units) : GU (tickS s (begE s)).1.units := by
  have last : ∀ t : Sd, t.units = s.units → GU (lastS t).units := fun t ht => by
    unfold lastS
    split
    · rw [ht]; exact h
    · rename_i u hu
      have hum : u ∈ t.units := List.mem_of_getElem? hu
      rw [ht] at hum
      split
      · refine gu_of (n := 1) h (by omega) (by rw [ht]; simp) fun v hv => ?_
        rw [ht] at hv
        rcases mem_set_of hv with hv | ⟨rfl, _⟩
        · exact ⟨v, hv, rfl, .inl (Nat.le_refl _)⟩
        · exact ⟨u, hum, rfl, .inr (by simp [tryU])⟩
      · refine gu_of (n := 1) h (by omega) (by rw [ht]; simp) fun v hv => ?_
        rw [ht] at hv
        rcases mem_set_of hv with hv | ⟨rfl, _⟩
        · exact ⟨v, hv, rfl, .inl (Nat.le_refl _)⟩
        · exact ⟨u, hum, rfl, .inr (by simp [tryU])⟩
  unfold tickS
  split
  · exact gu_zero
  · split
    · exact h
    · split
      · exact h
      · unfold tickT
        dsimp only
        split
        · exact h
        · exact last _ rfl
theorem rep_mem {s : Sd} {r : Stt} : ∀ (k : Nat), k ≤ s.units.length → ∀ u ∈ (repF s r k).1, ∃ v ∈ s.units, u.data = v.data ∧ u.sn = v.sn ∧ u.sent = v.sent ∧ (u.again = v.again ∨ u.again = (missS v r.miss).1)
  | 0, _, u, hu => by simp [repF] at hu
  | k + 1, hk, u, hu => by
    have ih := rep_mem (s := s) (r := r) k (by omega)
    rw [repF_step (by omega)] at hu
    have hm : s.units[k]'(by omega) ∈ s.units := List.getElem_mem _
    unfold repStep at hu
    split at hu
    · rcases List.mem_append.1 hu with hu | hu
      · exact ih u hu
      · simp at hu; subst hu; exact ⟨_, hm, rfl, rfl, rfl, .inl rfl⟩
    · split at hu
      · split at hu
        · split at hu
          · rcases List.mem_append.1 hu with hu | hu
            · exact ih u hu
            · simp at hu; subst hu; exact ⟨_, hm, rfl, rfl, rfl, .inr rfl⟩
          · rcases List.mem_append.1 hu with hu | hu
            · exact ih u hu
            · simp at hu; subst hu; exact ⟨_, hm, rfl, rfl, rfl, .inr rfl⟩
        · rcases List.mem_append.1 hu with hu | hu
          · exact ih u hu
          · simp at hu; subst hu; exact ⟨_, hm, rfl, rfl, rfl, .inr rfl⟩
      · split at hu
        · exact ih u hu
        · rcases List.mem_append.1 hu with hu | hu
          · exact ih u hu
          · simp at hu; subst hu; exact ⟨_, hm, rfl, rfl, rfl, .inl rfl⟩
theorem rep_gu {s : Sd} {r : Stt} (h : GU s.units) (hr : r.miss.length ≤ 1000000) : GU (repS s r).1.units := by
  unfold repS
  split
  · exact gu_zero
  · split
    · exact gu_zero
    · split
      · exact gu_zero
      · have e : (repT s r).units = (repF s r s.units.length).1 := by
          unfold repT repF
          rw [List.take_length]
        rw [e]
        refine gu_of (n := r.miss.length) h hr (repF_len (Nat.le_refl _)) fun u hu => ?_
        obtain ⟨v, hv, h1, _, _, h2⟩ := rep_mem _ (Nat.le_refl _) u hu
        refine ⟨v, hv, h1, ?_⟩
        rcases h2 with h2 | h2
        · exact .inl (by rw [h2]; exact Nat.le_refl _)
        · refine .inr ?_
          rw [h2]
          have := missS_len (u := v) (M := r.miss) (k := r.miss.length) (Nat.le_refl _)
          rwa [List.take_length] at this
theorem bytes_mem {xs : List Int} : Bytes xs ↔ ∀ x ∈ xs, 0 ≤ x ∧ x < 256 :=
  ⟨fun h x hx => by obtain ⟨i, hi, rfl⟩ := List.getElem_of_mem hx; exact h i hi, fun h i hi => h _ (List.getElem_mem hi)⟩
theorem encP_bytes {b : Int} {p : Pc} (h : Bytes p.data) : Bytes (encP b p).1 := by
  unfold encP
  split
  · rename_i hp
    have hf := Pc.first_range hp
    obtain ⟨_, _, _, _, _, ho, _⟩ := hp
    rw [bytes_mem] at h ⊢
    intro x hx
    unfold Pc.bytes at hx
    simp only [List.mem_append] at hx
    rcases hx with (hx | hx) | hx
    · simp at hx; omega
    · split at hx
      · simp at hx
      · simp at hx; omega
    · exact h x hx
  · intro i hi; simp at hi
theorem build_bytes {s : Sd} {size : Int} (h : GU s.units) : Bytes (buildS s size (begE s)).2.1 := by
  have nb : Bytes [] := fun i hi => by simp at hi
  unfold buildS
  split
  · exact nb
  · split
    · exact nb
    · split
      · exact nb
      · split
        · exact nb
        · rename_i u hu
          split
          · exact nb
          · have hum : u ∈ s.units := List.mem_of_getElem? hu
            have hd := bytes_mem.1 (h.2 u hum)
            have hp : ∀ x ∈ (pieceU u).data, x ∈ u.data := fun x hx => List.mem_of_mem_take (List.mem_of_mem_drop hx)
            have hc : ∀ x ∈ (cutP s.lk.bits (pieceU u) size).1.data, x ∈ (pieceU u).data := fun x hx => by
              unfold cutP at hx
              split at hx
              · simp [Pc.zero] at hx
              · split at hx
                · simp [Pc.zero] at hx
                · split at hx
                  · exact hx
                  · exact List.mem_of_mem_take hx
            have hb : Bytes (cutP s.lk.bits (pieceU u) size).1.data := bytes_mem.2 fun x hx => hd x (hp x (hc x hx))
            unfold buildT
            dsimp only
            split
            · exact encP_bytes hb
            · exact encP_bytes hb
theorem new_gu (l : Lk) : GU (newS l).1.units := by
  unfold newS
  split <;> exact gu_nil
end Go.Proofs.Ytmhggobilcmdmaa
namespace Go.Proofs.Ytmhggobilcmdmaa
open Go.Sx Go.RowKit
set_option maxRecDepth 100000

/-! ## The sanity check -/
theorem aw_facts : ∃ (p0 : Sd × Int) (d : List Int) (p1 : Sd × Int) (p2 p3 : Sd × List Int × Int) (p4 : Sd × Int), p0 = newS ⟨5, 4, 3, 3, 0, 4⟩ ∧ d = fillB 1 5 ∧ p1 = subS p0.1 d (begE p0.1) ∧ p2 = buildS p1.1 5 (begE p1.1) ∧ p3 = buildS p2.1 9 (begE p2.1) ∧ p4 = repS p3.1 ⟨1, []⟩ ∧
    (p0.2 = 0 ∧ p1.2 = 0 ∧ p2.2.2 = 0 ∧ p3.2.2 = 0 ∧ p4.2 = 0) ∧ d.length = 5 ∧ p2.2.1.length = 5 ∧ p3.2.1.length = 6 ∧ bAnd .u8 (p3.2.1.getD 0 0) 64 ≠ 0 ∧ p3.1.left = 3 ∧ p4.1.units.length = 0 ∧ p4.1.first = 1 ∧ p4.1.okB = true :=
  ⟨_, _, _, _, _, _, rfl, rfl, rfl, rfl, rfl, rfl, by decide +kernel⟩

theorem law20_awake_ct  {w : World} :
    Calls Try.prog N_law20_awake #[] w fun e w' => e = .returned (.bool true) ∧ Below w.heap.size w w' := by
  obtain ⟨p0, d, p1, p2, p3, p4, h0, hd, h1, h2, h3, h4, ⟨f0, f1, f2, f3, f4⟩, f5, f6, f7, f8, f9, f10, f11, f12⟩ := aw_facts
  have g0 : GU p0.1.units := by rw [h0]; exact new_gu _
  have g1 : GU p1.1.units := by rw [h1]; exact sub_gu g0 (by rw [hd]; exact fillB_bytes _ _)
  have g2 : GU p2.1.units := by rw [h2]; exact build_gu g1
  have g3 : GU p3.1.units := by rw [h3]; exact build_gu g2
  have g4 : GU p4.1.units := by rw [h4]; exact rep_gu g3 (by decide)
  apply F_law20_awake_ok
  unfold F_law20_awake
  have H := St.nil w
  refine law20_link_ct.mono ?_ -- 
  rintro _ w1 ⟨rfl, hb1⟩; have H1 := H.pass hb1; clear H
  refine ⟨_, _, _, _, _, _, rfl, ?_⟩
  have C0 := sender_New_ct (l := ⟨5, 4, 3, 3, 0, 4⟩) (w := w1)
  rw [← h0, f0] at C0
  refine C0.mono ?_; clear C0
  rintro _ w2 hh; obtain ⟨a2, c2, rfl, K⟩ := hh.fresh; have H2 := H1.callF K; clear H1 hh K
  simp only [List.nil_append] at H2
  refine ⟨_, _, _, _, _, _, _, _, _, _, _, _, _, _, _, _, rfl, ?_⟩
  refine H2.alloc ?_; clear H2; intro b w3 H3
  refine H3.store (i := 0) rfl (by rfl) (by rfl) ?_; clear H3; intro w4 H4
  refine H4.drew ?_; clear H4; intro w5 H5
  refine ⟨(· < w5.heap.size), ?_⟩
  refine ⟨H5.lt (i := 0) rfl rfl, ?_⟩
  refine ⟨_, _, _, _, _, _, _, _, _, _, _, _, _, _, _, H5.cells (i := 0) rfl, ?_⟩
  have C1 := made_Filled_ct (n := 5) (seed := 1) (w := w5) (by omega) (by omega)
  rw [← hd] at C1
  refine C1.mono ?_; clear C1
  rintro _ w6 ⟨da, dc, rfl, K⟩
  have hb6 := K.below
  have H6 := H5.callR K; clear K H5
  have H6 := H6.shareI (i := 1) rfl
  rw [← f5]
  refine ⟨_, _, _, rfl, ?_⟩
  refine ⟨hb6.keeps, ?_⟩
  have C2 := sender_Submit_ct (s := p0.1) (a := a2) (c := c2) (da := da) (dc := dc) (d := d) (w := w6) H6.get.2.1 g0.1 H6.get.1
  rw [← h1, f1] at C2
  refine C2.mono ?_; clear C2
  rintro _ w7 hh; obtain ⟨a7, c7, rfl, K⟩ := hh.fresh; have H7 := H6.callF K; clear hh K H6
  refine ⟨_, _, _, _, _, _, _, _, _, _, _, _, _, _, _, _, rfl, ?_⟩
  refine H7.store (i := 0) rfl (by rfl) (by rfl) ?_; clear H7; intro w8 H8
  refine ⟨_, _, _, _, _, _, _, _, _, _, _, _, _, _, _, H8.cells (i := 0) rfl, ?_⟩
  have C3 := sender_Build_ct (s := p1.1) (a := a7) (c := c7) (size := 5) (w := w8) H8.get.1 g1.1 (by omega)
  rw [← h2, f2] at C3
  refine C3.mono ?_; clear C3
  rintro _ w9 ⟨a9, c9, ba9, bc9, _, rfl, K⟩; have H9 := H8.callF K; clear K H8
  refine ⟨_, _, _, _, _, _, _, _, _, _, _, _, _, _, _, _, _, _, _, rfl, ?_⟩
  refine H9.store (i := 0) rfl (by rfl) (by rfl) ?_; clear H9; intro w10 H10
  refine ⟨_, _, _, _, _, _, _, _, _, _, _, _, _, _, _, H10.cells (i := 0) rfl, ?_⟩
  have C4 := sender_Build_ct (s := p2.1) (a := a9) (c := c9) (size := 9) (w := w10) H10.get.1.1 g2.1 (by omega)
  rw [← h3, f3] at C4
  refine C4.mono ?_; clear C4
  rintro _ w11 ⟨a11, c11, ba11, bc11, _, rfl, K⟩; have H11 := H10.callF K; clear K H10
  refine ⟨_, _, _, _, _, _, _, _, _, _, _, _, _, _, _, _, _, _, _, rfl, ?_⟩
  refine H11.store (i := 0) rfl (by rfl) (by rfl) ?_; clear H11; intro w12 H12
  refine ⟨_, _, _, _, _, _, _, _, _, _, _, _, _, _, _, H12.cells (i := 0) rfl, ?_⟩
  have C5 := sender_Report_ct (s := p3.1) (r := ⟨1, []⟩) (a := a11) (c := c11) (ma := none) (mc := 0) (w := w12) H12.get.1.1 g3.1 (.inl rfl) (by decide)
  rw [← h4, f4] at C5
  refine C5.mono ?_; clear C5
  rintro _ w13 hh; obtain ⟨a13, c13, rfl, K⟩ := hh.fresh; have H13 := H12.callF K; clear hh K H12
  refine ⟨_, _, _, _, _, _, _, _, _, _, _, _, _, _, _, _, rfl, ?_⟩
  simp only [List.set_cons_zero, List.set_cons_succ, List.append_nil] at H13
  refine H13.alloc ?_; clear H13; intro b1 w14 H14
  simp only [List.cons_append, List.nil_append] at H14
  refine H14.store (i := 2) rfl (by rfl) (by rfl) ?_; clear H14; intro w15 H15
  simp only [List.set_cons_zero, List.set_cons_succ] at H15
  refine bsplit_dec (fun _ => ?_) (fun h => absurd rfl h)
  refine bsplit_dec (fun _ => ?_) (fun h => absurd rfl h)
  refine bsplit_dec (fun _ => ?_) (fun h => absurd rfl h)
  refine bsplit_dec (fun _ => ?_) (fun h => absurd rfl h)
  refine bsplit_dec (fun _ => ?_) (fun h => absurd rfl h)
  refine bsplit_dec (fun _ => ?_) (fun h => absurd (by rw [f6]; rfl) h)
  refine bsplit_dec (fun _ => ?_) (fun h => absurd (by rw [f7]; rfl) h)
  obtain ⟨q, hq, hq2⟩ := H15.get.2.1.2.get (i := 0) (by omega)
  subst hq
  refine kIx_at ⟨by omega, by omega⟩ ?_
  refine ⟨_, hq2, ?_⟩
  rw [show p3.2.1[0] = p3.2.1.getD 0 0 by simp [List.getD, List.getElem?_eq_getElem (show 0 < p3.2.1.length by omega)]]
  refine kLet_in ?_
  refine bsplit_nd (fun _ => ?_) (fun h => absurd h f8)
  refine H15.ld (i := 0) rfl rfl ?_
  refine bsplit_dec (fun _ => ?_) (fun h => absurd f9 h)
  refine H15.ldS (i := 2) rfl rfl ?_
  refine bsplit_dec (fun _ => ?_) (fun h => absurd (by rw [f10]; rfl) h)
  refine H15.ld (i := 2) rfl rfl ?_
  refine bsplit_dec (fun _ => ?_) (fun h => absurd f11 h)
  refine ⟨_, _, _, _, _, _, _, _, _, _, _, _, _, _, _, H15.cells (i := 2) rfl, ?_⟩
  refine (sender_Valid_ct H15.get.1 g4.1).mono ?_
  rintro _ w16 ⟨rfl, hb16⟩; have H16 := H15.pass hb16; clear H15
  refine ⟨_, rfl, ?_⟩
  exact ⟨by rw [f12], H16.below⟩
end Go.Proofs.Ytmhggobilcmdmaa
namespace Go.Proofs.Ytmhggobilcmdmaa
open Go.Sx Go.RowKit
set_option maxRecDepth 100000
theorem law20_agree_ct {s : Sd} {a : Option Addr} {c : Nat} {da : Option Addr} {dc : Nat} {d : List Int} {size : Int} {r : Stt} {ma : Option Addr} {mc : Nat} {w : World} (hu : UnR w a s.units) (hg : GU s.units) (hd : SlR (IntC .u8) 1 w da d) (hdb : Bytes d)
    (hsz : -9223372036854775808 ≤ size ∧ size ≤ 9223372036854775807) (hM : SlR (CE encR) 3 w ma r.miss) (hml : r.miss.length ≤ 1000000) :
    Calls Try.prog N_law20_agree #[aggS s a c, .slice da d.length dc, .int .i64 size, (.agg #[.int .i64 r.upto, .slice ma r.miss.length mc])] w fun e w' => e = .returned (.bool true) ∧ Below w.heap.size w w' := by
  obtain ⟨p1, h1⟩ : ∃ p, p = subS s d (begE s) := ⟨_, rfl⟩
  obtain ⟨p2, h2⟩ : ∃ p, p = buildS s size (begE s) := ⟨_, rfl⟩
  obtain ⟨p3, h3⟩ : ∃ p, p = repS s r := ⟨_, rfl⟩
  obtain ⟨p4, h4⟩ : ∃ p, p = tickS s (begE s) := ⟨_, rfl⟩
  have g1 : GU p1.1.units := by rw [h1]; exact sub_gu hg hdb
  have g2 : GU p2.1.units := by rw [h2]; exact build_gu hg
  have g3 : GU p3.1.units := by rw [h3]; exact rep_gu hg hml
  have g4 : GU p4.1.units := by rw [h4]; exact tick_gu hg
  have by2 : Bytes p2.2.1 := by rw [h2]; exact build_bytes hg
  apply F_law20_agree_ok
  unfold F_law20_agree
  have H := St.nil w
  refine H.alloc ?_; clear H; intro b w1 H1
  refine H1.alloc ?_; clear H1; intro b1 w2 H2
  refine ⟨_, _, _, _, _, _, _, _, _, _, _, _, _, _, _, H2.cells (i := 0) rfl, ?_⟩
  have C := sender_Submit_ct (s := s) (a := a) (c := c) (da := da) (dc := dc) (d := d) (unR_below hu H2.below) hg.1 (hd.below H2.below)
  rw [← h1] at C
  refine C.mono ?_; clear C
  rintro _ w3 hh; obtain ⟨a3, c3, rfl, K⟩ := hh.fresh; have H3 := H2.callF K; clear hh K H2
  simp only [List.cons_append, List.nil_append] at H3
  refine ⟨_, _, _, _, _, _, _, _, _, _, _, _, _, _, _, _, rfl, ?_⟩
  refine H3.alloc ?_; clear H3; intro b2 w4 H4
  simp only [List.cons_append, List.nil_append] at H4
  refine H4.store (i := 2) rfl (by rfl) (by rfl) ?_; clear H4; intro w5 H5
  simp only [List.set_cons_zero, List.set_cons_succ] at H5
  refine ⟨_, _, _, _, _, _, _, _, _, _, _, _, _, _, _, H5.cells (i := 0) rfl, ?_⟩
  have C := ref20_Submit_ct (s := s) (a := a) (c := c) (da := da) (dc := dc) (d := d) (unR_below hu H5.below) hg.1 (hd.below H5.below)
  rw [← h1] at C
  refine C.mono ?_; clear C
  rintro _ w6 hh; obtain ⟨a6, c6, rfl, K⟩ := hh.fresh; have H6 := H5.callF K; clear hh K H5
  simp only [List.cons_append, List.nil_append] at H6
  refine ⟨_, _, _, _, _, _, _, _, _, _, _, _, _, _, _, _, rfl, ?_⟩
  refine H6.alloc ?_; clear H6; intro b3 w7 H7
  simp only [List.cons_append, List.nil_append] at H7
  refine H7.store (i := 3) rfl (by rfl) (by rfl) ?_; clear H7; intro w8 H8
  simp only [List.set_cons_zero, List.set_cons_succ] at H8
  refine ⟨_, _, _, _, _, _, _, _, _, _, _, _, _, _, _, H8.cells (i := 0) rfl, ?_⟩
  have C := sender_Build_ct (s := s) (a := a) (c := c) (size := size) (unR_below hu H8.below) hg.1 hsz
  rw [← h2] at C
  refine C.mono ?_; clear C
  rintro _ w9 ⟨a9, c9, ba9, bc9, _, rfl, K⟩; have H9 := H8.callF K; clear K H8
  simp only [List.cons_append, List.nil_append] at H9
  refine ⟨_, _, _, _, _, _, _, _, _, _, _, _, _, _, _, _, _, _, _, rfl, ?_⟩
  refine H9.alloc ?_; clear H9; intro b4 w10 H10
  simp only [List.cons_append, List.nil_append] at H10
  refine H10.store (i := 4) rfl (by rfl) (by rfl) ?_; clear H10; intro w11 H11
  simp only [List.set_cons_zero, List.set_cons_succ] at H11
  refine ⟨_, _, _, _, _, _, _, _, _, _, _, _, _, _, _, H11.cells (i := 0) rfl, ?_⟩
  have C := ref20_Build_ct (s := s) (a := a) (c := c) (size := size) (unR_below hu H11.below) hg.1 hsz
  rw [← h2] at C
  refine C.mono ?_; clear C
  rintro _ w12 ⟨a12, c12, ba12, bc12, _, rfl, K⟩; have H12 := H11.callF K; clear K H11
  simp only [List.cons_append, List.nil_append] at H12
  refine ⟨_, _, _, _, _, _, _, _, _, _, _, _, _, _, _, _, _, _, _, rfl, ?_⟩
  refine H12.alloc ?_; clear H12; intro b5 w13 H13
  simp only [List.cons_append, List.nil_append] at H13
  refine H13.store (i := 5) rfl (by rfl) (by rfl) ?_; clear H13; intro w14 H14
  simp only [List.set_cons_zero, List.set_cons_succ] at H14
  refine ⟨_, _, _, _, _, _, _, _, _, _, _, _, _, _, _, H14.cells (i := 0) rfl, ?_⟩
  refine ⟨_, _, _, _, H14.cells (i := 1) rfl, ?_⟩
  have C := sender_Report_ct (s := s) (r := r) (a := a) (c := c) (ma := ma) (mc := mc) (unR_below hu H14.below) hg.1 (hM.belowE H14.below) hml
  rw [← h3] at C
  refine C.mono ?_; clear C
  rintro _ w15 hh; obtain ⟨a15, c15, rfl, K⟩ := hh.fresh; have H15 := H14.callF K; clear hh K H14
  simp only [List.cons_append, List.nil_append] at H15
  refine ⟨_, _, _, _, _, _, _, _, _, _, _, _, _, _, _, _, rfl, ?_⟩
  refine H15.alloc ?_; clear H15; intro b6 w16 H16
  simp only [List.cons_append, List.nil_append] at H16
  refine H16.store (i := 6) rfl (by rfl) (by rfl) ?_; clear H16; intro w17 H17
  simp only [List.set_cons_zero, List.set_cons_succ] at H17
  refine ⟨_, _, _, _, _, _, _, _, _, _, _, _, _, _, _, H17.cells (i := 0) rfl, ?_⟩
  refine ⟨_, _, _, _, H17.cells (i := 1) rfl, ?_⟩
  have C := ref20_Report_ct (s := s) (r := r) (a := a) (c := c) (ma := ma) (mc := mc) (unR_below hu H17.below) hg.1 (hM.belowE H17.below) hml
  rw [← h3] at C
  refine C.mono ?_; clear C
  rintro _ w18 hh; obtain ⟨a18, c18, rfl, K⟩ := hh.fresh; have H18 := H17.callF K; clear hh K H17
  simp only [List.cons_append, List.nil_append] at H18
  refine ⟨_, _, _, _, _, _, _, _, _, _, _, _, _, _, _, _, rfl, ?_⟩
  refine H18.alloc ?_; clear H18; intro b7 w19 H19
  simp only [List.cons_append, List.nil_append] at H19
  refine H19.store (i := 7) rfl (by rfl) (by rfl) ?_; clear H19; intro w20 H20
  simp only [List.set_cons_zero, List.set_cons_succ] at H20
  refine ⟨_, _, _, _, _, _, _, _, _, _, _, _, _, _, _, H20.cells (i := 0) rfl, ?_⟩
  have C := sender_Tick_ct (s := s) (a := a) (c := c) (unR_below hu H20.below) hg.1
  rw [← h4] at C
  refine C.mono ?_; clear C
  rintro _ w21 hh; obtain ⟨a21, c21, rfl, K⟩ := hh.fresh; have H21 := H20.callF K; clear hh K H20
  simp only [List.cons_append, List.nil_append] at H21
  refine ⟨_, _, _, _, _, _, _, _, _, _, _, _, _, _, _, _, rfl, ?_⟩
  refine H21.alloc ?_; clear H21; intro b8 w22 H22
  simp only [List.cons_append, List.nil_append] at H22
  refine H22.store (i := 8) rfl (by rfl) (by rfl) ?_; clear H22; intro w23 H23
  simp only [List.set_cons_zero, List.set_cons_succ] at H23
  refine ⟨_, _, _, _, _, _, _, _, _, _, _, _, _, _, _, H23.cells (i := 0) rfl, ?_⟩
  have C := ref20_Tick_ct (s := s) (a := a) (c := c) (unR_below hu H23.below) hg.1
  rw [← h4] at C
  refine C.mono ?_; clear C
  rintro _ w24 hh; obtain ⟨a24, c24, rfl, K⟩ := hh.fresh; have H24 := H23.callF K; clear hh K H23
  simp only [List.cons_append, List.nil_append] at H24
  refine ⟨_, _, _, _, _, _, _, _, _, _, _, _, _, _, _, _, rfl, ?_⟩
  refine H24.alloc ?_; clear H24; intro b9 w25 H25
  simp only [List.cons_append, List.nil_append] at H25
  refine H25.store (i := 9) rfl (by rfl) (by rfl) ?_; clear H25; intro w26 H26
  simp only [List.set_cons_zero, List.set_cons_succ] at H26
  refine H26.drew ?_; clear H26; intro w27 H27
  obtain ⟨u24, u21, u18, u15, ⟨u12, d12⟩, ⟨u9, d9⟩, u6, u3, -⟩ := H27.get
  refine ⟨(· < w27.heap.size), ?_⟩
  refine ⟨_, _, _, _, _, _, _, _, _, _, _, _, _, _, _, H27.cells (i := 0) rfl, ?_⟩
  refine ⟨H27.lt (i := 0) rfl rfl, ?_⟩
  refine ⟨_, _, _, _, _, _, _, _, _, _, _, _, _, _, _, H27.cells (i := 0) rfl, ?_⟩
  refine (sender_Valid_ct (unR_below hu H27.below) hg.1).mono ?_
  rintro _ w28 ⟨rfl, k28⟩; have H28 := H27.pass k28
  refine ⟨_, rfl, ?_⟩
  refine ⟨k28.keeps, ?_⟩
  refine (ref20_Valid_ct (unR_below hu H28.below) hg.1).mono ?_
  rintro _ w29 ⟨rfl, k29⟩; have H29 := H28.pass k29
  refine ⟨_, rfl, ?_⟩
  replace k29 := below_step k28 (Nat.le_refl _) k29
  refine ⟨k29.keeps, ?_⟩
  refine bsplit_intro (fun _ => ?_) (fun h => by simp at h)
  refine bsplit_dec (fun _ => ?_) (fun h => absurd rfl h)
  refine ⟨H27.lt (i := 2) rfl rfl, ?_⟩
  refine ⟨_, _, _, _, _, _, _, _, _, _, _, _, _, _, _, H27.cells (i := 2) rfl, ?_⟩
  refine ⟨H27.lt (i := 3) rfl rfl, ?_⟩
  refine ⟨_, _, _, _, _, _, _, _, _, _, _, _, _, _, _, H27.cells (i := 3) rfl, ?_⟩
  refine (ref20_Same_ct (s := p1.1) (unR_below u3 k29) (unR_below u6 k29) g1.1 g1.2).mono ?_
  rintro _ w30 ⟨rfl, k30⟩; have H30 := H29.pass k30
  refine ⟨_, rfl, ?_⟩
  replace k30 := below_step k29 (Nat.le_refl _) k30
  refine ⟨k30.keeps, ?_⟩
  refine bsplit_intro (fun _ => ?_) (fun h => by cases h)
  refine bsplit_dec (fun _ => ?_) (fun h => absurd rfl h)
  refine (ref01_Same_ct (d9.below k30) (d12.below k30) by2 by2).mono ?_
  rintro _ w31 ⟨rfl, k31⟩; have H31 := H30.pass k31
  refine ⟨_, rfl, ?_⟩
  replace k31 := below_step k30 (Nat.le_refl _) k31
  refine ⟨k31.keeps, ?_⟩
  refine bsplit_intro (fun _ => ?_) (fun h => by simp at h)
  refine ⟨H27.lt (i := 4) rfl rfl, ?_⟩
  refine ⟨_, _, _, _, _, _, _, _, _, _, _, _, _, _, _, H27.cells (i := 4) rfl, ?_⟩
  refine ⟨H27.lt (i := 5) rfl rfl, ?_⟩
  refine ⟨_, _, _, _, _, _, _, _, _, _, _, _, _, _, _, H27.cells (i := 5) rfl, ?_⟩
  refine (ref20_Same_ct (s := p2.1) (unR_below u9 k31) (unR_below u12 k31) g2.1 g2.2).mono ?_
  rintro _ w32 ⟨rfl, k32⟩; have H32 := H31.pass k32
  refine ⟨_, rfl, ?_⟩
  replace k32 := below_step k31 (Nat.le_refl _) k32
  refine ⟨k32.keeps, ?_⟩
  refine bsplit_intro (fun _ => ?_) (fun h => by cases h)
  refine bsplit_dec (fun _ => ?_) (fun h => absurd rfl h)
  refine ⟨H27.lt (i := 6) rfl rfl, ?_⟩
  refine ⟨_, _, _, _, _, _, _, _, _, _, _, _, _, _, _, H27.cells (i := 6) rfl, ?_⟩
  refine ⟨H27.lt (i := 7) rfl rfl, ?_⟩
  refine ⟨_, _, _, _, _, _, _, _, _, _, _, _, _, _, _, H27.cells (i := 7) rfl, ?_⟩
  refine (ref20_Same_ct (s := p3.1) (unR_below u15 k32) (unR_below u18 k32) g3.1 g3.2).mono ?_
  rintro _ w33 ⟨rfl, k33⟩; have H33 := H32.pass k33
  refine ⟨_, rfl, ?_⟩
  replace k33 := below_step k32 (Nat.le_refl _) k33
  refine ⟨k33.keeps, ?_⟩
  refine bsplit_intro (fun _ => ?_) (fun h => by cases h)
  refine bsplit_dec (fun _ => ?_) (fun h => absurd rfl h)
  refine ⟨H27.lt (i := 8) rfl rfl, ?_⟩
  refine ⟨_, _, _, _, _, _, _, _, _, _, _, _, _, _, _, H27.cells (i := 8) rfl, ?_⟩
  refine ⟨H27.lt (i := 9) rfl rfl, ?_⟩
  refine ⟨_, _, _, _, _, _, _, _, _, _, _, _, _, _, _, H27.cells (i := 9) rfl, ?_⟩
  refine (ref20_Same_ct (s := p4.1) (unR_below u21 k33) (unR_below u24 k33) g4.1 g4.2).mono ?_
  rintro _ w34 ⟨rfl, k34⟩; have H34 := H33.pass k34
  refine ⟨_, rfl, ?_⟩
  replace k34 := below_step k33 (Nat.le_refl _) k34
  exact ⟨rfl, H34.below⟩
end Go.Proofs.Ytmhggobilcmdmaa
