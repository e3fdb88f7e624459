import Derived.Test.YteoogdpjidbapaaW01d
namespace Go.Proofs.Yteoogdpjidbapaa
open Go.Sx Go.RowKit

/-! ## What was packed is unpacked: plain -/
section
variable {ws vs : List Int}
theorem bitI_zero (T j : Nat) : bitI (List.replicate T 0) j = 0 := by
  unfold bitI
  have : (List.replicate T (0 : Int)).getD (j / 8) 0 = 0 := by
    simp [List.getD, List.getElem?_replicate]
    split <;> rfl
  rw [this]; simp
theorem pkL_read (hg : ∀ i, i < ws.length → ¬ pkBad ws vs i) : ∀ m, m ≤ ws.length →
    (∀ i, i < m → readV (pkL ws vs m) (sumN ws i) (wN ws i) = vs.getD i 0) ∧ ∀ j, sumN ws m ≤ j → bitI (pkL ws vs m) j = 0
  | 0, _ => ⟨fun i hi => by omega, fun j _ => bitI_zero _ _⟩
  | m + 1, hm => by
    obtain ⟨h1, h2⟩ := pkL_read hg m (by omega)
    obtain ⟨n, v, hn, hv, hn32, hwn, hv2, _⟩ := good_n (hg m (by omega))
    have hs := sumN_mono ws (show m + 1 ≤ ws.length by omega)
    simp only [sumN] at hs
    have hfit : sumN ws m + wN ws m ≤ 8 * (pkL ws vs m).length := by rw [pkL_length]; unfold pkT; omega
    have hbit := fun j => bitI_wrL (pkL_bytes ws vs m) (A := sumN ws m) (v := (vs.getD m 0).toNat) (N := wN ws m) (wN ws m) hfit j
    refine ⟨fun i hi => ?_, fun j hj => ?_⟩
    · by_cases him : i = m
      · subst him
        simp only [pkL]
        rw [readV_wrL (pkL_bytes ws vs i) hfit (by rw [hv, Int.toNat_natCast, hwn]; exact hv2), hv, Int.toNat_natCast]
      · rw [← h1 i (by omega)]
        have := sumN_mono ws (show i + 1 ≤ m by omega)
        simp only [sumN] at this
        exact readV_congr fun j hj => by rw [pkL, hbit, if_neg (by omega)]
    · simp only [sumN] at hj
      rw [pkL, hbit, if_neg (by omega)]
      exact h2 j (by omega)
theorem readV_zero {xs : List Int} {a : Nat} : ∀ {n : Nat}, (∀ j, j < n → bitI xs (a + j) = 0) → readV xs a n = 0
  | 0, _ => rfl
  | n + 1, h => by rw [readV, readV_zero fun j hj => h j (by omega), h n (by omega)]; rfl
theorem up_of_pk (hl : ws.length = vs.length) (h256 : ws.length ≤ 256) (hg : ∀ i, i < ws.length → ¬ pkBad ws vs i) :
    upE (pkL ws vs ws.length) ws = 0 ∧ upR (pkL ws vs ws.length) ws = vs := by
  obtain ⟨h1, h2⟩ := pkL_read hg ws.length (Nat.le_refl _)
  have hE : upE (pkL ws vs ws.length) ws = 0 := by
    unfold upE
    rw [pkL_length]
    rw [if_neg (by omega), if_neg, if_neg (by unfold pkT; omega), if_neg (by unfold pkT; omega), if_neg]
    · intro h
      exact h (readV_zero fun j hj => h2 _ (by omega))
    · rintro ⟨i, hi, hb⟩
      exact hg i hi (by unfold upBad at hb; unfold pkBad; omega)
  refine ⟨hE, ?_⟩
  unfold upR
  rw [if_pos hE]
  apply List.ext_getElem (by rw [upV_length]; exact hl)
  intro i h3 h4
  simp only [upV, List.getElem_map, List.getElem_range]
  rw [h1 i (by rw [upV_length] at h3; exact h3), getD_at h4]
theorem getD_app_lt {xs : List Int} {x : Int} {i : Nat} (h : i < xs.length) : (xs ++ [x]).getD i 0 = xs.getD i 0 := by
  rw [getD_at h, getD_at (by simp; omega), List.getElem_append_left h]
theorem getD_app_last {xs : List Int} {x : Int} : (xs ++ [x]).getD xs.length 0 = x := by
  rw [getD_at (by simp)]; simp
theorem sumN_app {xs : List Int} {x : Int} : ∀ {m : Nat}, m ≤ xs.length → sumN (xs ++ [x]) m = sumN xs m
  | 0, _ => rfl
  | m + 1, h => by simp only [sumN, wN]; rw [sumN_app (by omega), getD_app_lt (by omega)]
end

theorem DiceR.keep {w w' : World} {g : Nat} {a : Option Addr} {c : Nat} {ts : List Int} (h : DiceR w g a c ts) (hb : w'.heap[g]? = w.heap[g]?) (hr : SlR (IntC .i64) 1 w' a ts) : DiceR w' g a c ts := by
  obtain ⟨⟨p, hp, hB⟩, _, hf⟩ := h
  exact ⟨⟨p, hp, hb.trans hB⟩, hr, hf⟩
theorem OwnI.turned {w w' : World} {g base : Nat} {e : TypeId} {k : IntKind} {a : Option Addr} {n c : Nat} {zs : List Int} (h : OwnI w base e k a n c zs) (ht : Turned g w w') (hg : g < base) : OwnI w' base e k a n c zs :=
  h.keep fun q hq => ht.heap q (by have := (h.lt hq).1; omega)

section
variable {ta : Option Addr} {tc : Nat} {ts : List Int} {w : World}
theorem law_returns (ht : SlR (IntC .i64) 1 w ta ts) :
    Calls Try.prog N_law01_BitsReturns #[.slice ta ts.length tc] w fun e w' => e = .returned (.bool true) ∧ Below w.heap.size w w' := by
  apply F_law01_BitsReturns_ok
  unfold F_law01_BitsReturns
  refine (light_ok _ _ _ w).mono ?_
  rintro _ w1 ⟨rfl, rfl⟩
  refine ⟨_, rfl, bsplit_intro (fun _ => ?_) (fun hl => ?_)⟩
  · refine (awake_ok w1).mono ?_
    rintro _ w2 ⟨rfl, b2⟩
    exact ⟨_, rfl, rfl, b2⟩
  have hl : ts.length ≤ 400 := by simp at hl; omega
  refine (roll_ok (c := tc) ht).mono ?_
  rintro _ w3 ⟨rfl, hD3, hs3, b3⟩
  refine ⟨_, rfl, ?_⟩
  rw [nb_def]
  refine (next_ok hD3 40 (by decide) (by omega)).mono ?_
  rintro _ w4 ⟨n0, rfl, hn0, hD4, t4⟩
  have hn0 := hn0 (by decide)
  have b4 := b3.trans (t4.below _ (Nat.le_refl _))
  refine ⟨_, rfl, ?_⟩
  refine ⟨fun wa wl wc va vl vc sum n => (n.toNat, fun w5 => ∃ ws vs : List Int, wl = ws.length ∧ vl = ws.length ∧ vs.length = ws.length ∧ 0 ≤ n ∧ ws.length + n ≤ 40 ∧ sum = (sumN ws ws.length : Nat) ∧ (∀ i, i < ws.length → ¬ pkBad ws vs i) ∧
    OwnI w5 (w1.heap.size + 1) Ty_int .i64 wa ws.length wc ws ∧ OwnI w5 (w1.heap.size + 1) Ty_int .i64 va ws.length vc vs ∧ (∀ g, ob wa = some g → ob va ≠ some g) ∧ DiceR w5 w1.heap.size ta tc ts ∧ Below w1.heap.size w1 w5 ∧ w1.heap.size < w5.heap.size), ?_, ?_⟩
  · exact ⟨[], [], rfl, rfl, rfl, hn0.1, by simp; omega, rfl, fun i hi => by simp at hi, OwnI.nil_ .., OwnI.nil_ .., fun g hg => by simp [ob] at hg, hD4, b4, by rw [t4.size, hs3]; omega⟩
  rintro _ wa wl wc va vl vc sum n w5 ⟨ws, vs, rfl, rfl, hvl, hn, hlen, rfl, hgood, oW, oV, hdis, hD5, b5, hs5⟩
  refine bsplit_dec (fun hlt => ?_) (fun hge => ?_)
  · refine (next_ok hD5 33 (by decide) (by omega)).mono ?_
    rintro _ w6 ⟨x, rfl, hx, hD6, t6⟩
    have hx := hx (by decide)
    have b6 := b5.trans (t6.below _ (Nat.le_refl _))
    have hs6 : w1.heap.size < w6.heap.size := by rw [t6.size]; exact hs5
    have oW6 := OwnI.turned oW t6 (by omega)
    have oV6 := OwnI.turned oV t6 (by omega)
    refine ⟨_, rfl, ?_⟩
    have hsum := sumN_le (ws := ws) (k := ws.length) fun i hi => by obtain ⟨n, v, _, _, h1, h2, _⟩ := good_n (hgood i hi); omega
    refine oW6.app1 sl_Ty_S_int (by omega) (by omega) (by omega) fun wa8 wc8 w8 oW8 hbl8 hh8 hob8 hs8 => ?_
    have b8 := hbl8 _ _ b6 (by omega)
    have hW6 : ∀ g, ob wa = some g → w1.heap.size < g ∧ g < w6.heap.size := fun g hg => by have := oW6.lt hg; omega
    have hV6 : ∀ g, ob va = some g → w1.heap.size < g ∧ g < w6.heap.size := fun g hg => by have := oV6.lt hg; omega
    have oV8 : OwnI w8 (w1.heap.size + 1) Ty_int .i64 va ws.length vc vs := oV6.keep fun g hg => hh8 g (fun e => hdis g e hg) (hV6 g hg).2
    have hD8 : DiceR w8 w1.heap.size ta tc ts := hD6.keep (hh8 _ (fun e => by have := hW6 _ e; omega) hs6) (ht.below b8)
    obtain ⟨X, rfl⟩ := natOf hx.1
    rw [u64_id X (by omega), shl_one (by omega)]
    refine ⟨by omega, ?_⟩
    have hp := pow_le32 (n := X) (by omega)
    have hp0 : (1 : Int) ≤ 2 ^ X := by rw [two_pow_cast]; have := Nat.two_pow_pos X; omega
    refine (next_ok hD8 _ (by omega) (by omega)).mono ?_
    rintro _ w9 ⟨v, rfl, hv, hD9, t9⟩
    have hv := hv hp0
    refine ⟨_, rfl, ?_⟩
    have b9 := b8.trans (t9.below _ (Nat.le_refl _))
    have oW9 := OwnI.turned oW8 t9 (by omega)
    have oV9 := OwnI.turned oV8 t9 (by omega)
    have hs9 := t9.size
    have hne9 : ∀ g, ob wa8 = some g → ob va ≠ some g := fun g hg hg2 => by
      rcases hob8 with h | h
      · exact hdis g (h ▸ hg) hg2
      · have := hV6 g hg2; rw [h] at hg; injection hg with hg; omega
    refine oV9.app1 sl_Ty_S_int (by omega) (by omega) (by omega) fun va11 vc11 w11 oV11 hbl11 hh11 hob11 hs11 => ?_
    have b11 := hbl11 _ _ b9 (by omega)
    have hV9 : ∀ g, ob va = some g → w1.heap.size < g ∧ g < w9.heap.size := fun g hg => by have := oV9.lt hg; omega
    have hW9 : ∀ g, ob wa8 = some g → w1.heap.size < g ∧ g < w9.heap.size := fun g hg => by have := oW9.lt hg; omega
    have oW11 := oW9.keep (w' := w11) fun g hg => hh11 g (fun e => hne9 g hg e) (hW9 g hg).2
    rw [wrap_id (((sumN ws ws.length : Nat) : Int) + X) (by omega), wrap_id (n - 1) (by omega)]
    intro sum1 n1
    refine ⟨⟨ws ++ [(X : Int)], vs ++ [v], by simp, by simp, by simp; omega, by simp only [n1]; omega, by simp only [n1]; simp; omega, ?_, ?_, by simpa using oW11, by simpa using oV11, ?_, ?_, b11, by omega⟩, by simp [n1]; omega⟩
    · simp only [sum1, List.length_append, List.length_singleton, sumN]
      rw [sumN_app (Nat.le_refl _), wN, getD_app_last, Int.toNat_natCast]; omega
    · intro i hi
      simp at hi
      by_cases hil : i = ws.length
      · subst hil
        unfold pkBad wN
        have e2 : (vs ++ [v]).getD ws.length 0 = v := by rw [← hvl]; exact getD_app_last
        rw [getD_app_last, e2, Int.toNat_natCast]
        omega
      · have := hgood i (by omega)
        unfold pkBad wN at this ⊢
        rw [getD_app_lt (by omega), getD_app_lt (by omega)]
        exact this
    · intro g hg hg2
      rcases hob11 with h | h
      · exact hne9 g hg (h ▸ hg2)
      · have := hW9 g hg; rw [h] at hg2; injection hg2 with hg2; omega
    · exact hD9.keep (hh11 _ (fun e => by have := hV9 _ e; omega) (by omega)) (ht.below b11)
  · have h256 : ws.length ≤ 256 := by omega
    have hsum := sumN_le (ws := ws) (k := ws.length) fun i hi => by obtain ⟨n, v, _, _, h1, h2, _⟩ := good_n (hgood i hi); omega
    have hpk := pack_ok (wc := wc) (vc := vc) oW.sl oV.sl
    rw [hvl] at hpk
    refine hpk.mono ?_
    obtain ⟨hE, hR⟩ := pk0 (ws := ws) (vs := vs) (by omega) hgood
    rw [hE, hR]
    intro _ w12 h12
    obtain ⟨a1, c1, rfl, o1, b12⟩ := h12.sl
    refine ⟨_, _, _, _, rfl, ?_⟩
    have hlen := pkL_length ws vs ws.length
    refine (unpack_ok (bc := c1) (wc := wc) o1 (pkL_bytes ws vs ws.length) (by rw [hlen]; unfold pkT; omega) (oW.sl.below b12)).mono ?_
    obtain ⟨hE2, hR2⟩ := up_of_pk hvl.symm h256 hgood
    rw [hE2, hR2]
    intro _ w13 h13
    obtain ⟨a2, c2, rfl, o2, b13⟩ := h13.sl
    refine ⟨_, _, _, _, rfl, ?_⟩
    have B13 := below_step (below_step b5 (Nat.le_of_lt hs5 |> fun _ => Nat.le_refl _) b12) (Nat.le_refl _) b13
    refine (awake_ok w13).mono ?_
    rintro _ w14 ⟨rfl, b14⟩
    refine ⟨_, rfl, bsplit_intro (fun _ => ?_) (fun h => by cases h)⟩
    refine bsplit_intro (fun _ => ?_) (fun h => by simp at h)
    refine bsplit_intro (fun _ => ?_) (fun h => by simp at h)
    have hsame := sameInts_ok (c1 := c2) (c2 := vc) (o2.below b14) (((oV.sl.below b12).below b13).below b14) (by omega)
    rw [hvl] at hsame
    rw [hvl]
    refine hsame.mono ?_
    rintro _ w15 ⟨rfl, b15⟩
    refine ⟨_, rfl, bsplit_intro (fun _ => ?_) (fun h => by simp at h)⟩
    rw [seven_div (by omega)]
    intro x
    have : x = true := by simp only [x]; rw [hlen]; simp [pkT]
    rw [this]
    exact ⟨rfl, below_step (below_step B13 (Nat.le_refl _) b14) (Nat.le_refl _) b15⟩
end
end Go.Proofs.Yteoogdpjidbapaa
