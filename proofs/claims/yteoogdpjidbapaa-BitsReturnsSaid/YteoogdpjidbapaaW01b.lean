import Derived.Test.YteoogdpjidbapaaW01a
import Derived.Test.YteoogdpjidbapaaCmDice
namespace Go.Proofs.Yteoogdpjidbapaa
open Go.Sx Go.RowKit

/-! ## Plain laws of bits -/
theorem bitI_setBit {xs : List Int} (h : Bytes xs) {k b : Nat} (hk : k < 8 * xs.length) (hb : b < 2) (j : Nat) : bitI (setBit xs k b) j = if j = k then (b : Int) else bitI xs j := by
  have hk8 : k / 8 < xs.length := by omega
  unfold bitI setBit
  by_cases hj : j / 8 = k / 8
  · obtain ⟨x, hx, hx2⟩ := h.getD (k / 8)
    rw [hj]
    have e1 : (xs.set (k / 8) ((setB (xs.getD (k / 8) 0).toNat (7 - k % 8) b : Nat) : Int)).getD (k / 8) 0 = ((setB x (7 - k % 8) b : Nat) : Int) := by
      rw [hx, Int.toNat_natCast, getD_at (by simpa using hk8)]; simp
    rw [e1, hx, two_pow_cast, ← Int.natCast_ediv, ← Int.natCast_ediv]
    have e2 := setB_bit x hx2 (7 - k % 8) (by omega) (7 - j % 8) (by omega) b hb
    have e3 : ((setB x (7 - k % 8) b / 2 ^ (7 - j % 8) : Nat) : Int) % 2 = ((setB x (7 - k % 8) b / 2 ^ (7 - j % 8) % 2 : Nat) : Int) := by omega
    rw [e3, e2]
    by_cases hjk : j = k
    · rw [if_pos hjk, if_pos (by omega)]
    · rw [if_neg hjk, if_neg (by omega)]; omega
  · rw [if_neg (by intro e; exact hj (by rw [e]))]
    have : (xs.set (k / 8) ((setB (xs.getD (k / 8) 0).toNat (7 - k % 8) b : Nat) : Int)).getD (j / 8) 0 = xs.getD (j / 8) 0 := by
      simp only [List.getD]
      rw [List.getElem?_set_ne (by omega)]
    rw [this]
theorem bitI_wrL {xs : List Int} (h : Bytes xs) {A v N : Nat} : ∀ (m : Nat) (_ : A + m ≤ 8 * xs.length) (j : Nat),
    bitI (wrL xs A v N m) j = if A ≤ j ∧ j < A + m then ((v / 2 ^ (N - 1 - (j - A)) % 2 : Nat) : Int) else bitI xs j
  | 0, _, j => by rw [if_neg (by omega)]; rfl
  | m + 1, hm, j => by
    rw [wrL, bitI_setBit (wrL_bytes h A v N m) (by rw [wrL_length]; omega) (by omega), bitI_wrL h m (by omega) j]
    by_cases hj : j = A + m
    · rw [if_pos hj, if_pos (by omega), show j - A = m by omega]
    · rw [if_neg hj]
      by_cases hj2 : A ≤ j ∧ j < A + m
      · rw [if_pos hj2, if_pos (by omega)]
      · rw [if_neg hj2, if_neg (by omega)]
theorem readV_congr {xs ys : List Int} {a : Nat} : ∀ {n : Nat}, (∀ j, j < n → bitI xs (a + j) = bitI ys (a + j)) → readV xs a n = readV ys a n
  | 0, _ => rfl
  | n + 1, h => by
    simp only [readV]
    rw [readV_congr fun j hj => h j (by omega), h n (by omega)]
theorem readV_add (xs : List Int) (a n : Nat) : ∀ m, readV xs a (n + m) = readV xs a n * 2 ^ m + readV xs (a + n) m
  | 0 => by simp [readV]
  | m + 1 => by
    rw [← Nat.add_assoc, readV, readV_add xs a n m, readV, Int.pow_succ, Nat.add_assoc a n m]
    have : readV xs a n * (2 ^ m * 2) = 2 * (readV xs a n * 2 ^ m) := by rw [← Int.mul_assoc, Int.mul_comm]
    rw [this]
    omega
theorem nat_bits (v N m : Nat) (hv : v < 2 ^ N) (hm : m < N) : 2 * (v / 2 ^ (N - m)) + v / 2 ^ (N - 1 - m) % 2 = v / 2 ^ (N - (m + 1)) := by
  have e : N - m = (N - 1 - m) + 1 := by omega
  have e2 : N - (m + 1) = N - 1 - m := by omega
  rw [e, e2, Nat.pow_succ, ← Nat.div_div_eq_div_mul]
  omega
theorem readV_wrL {xs : List Int} (h : Bytes xs) {A v N : Nat} (hi : A + N ≤ 8 * xs.length) (hv : v < 2 ^ N) : readV (wrL xs A v N N) A N = v := by
  have key : ∀ m, m ≤ N → readV (wrL xs A v N N) A m = ((v / 2 ^ (N - m) : Nat) : Int) := by
    intro m
    induction m with
    | zero => intro _; simp only [readV, Nat.sub_zero]; rw [Nat.div_eq_of_lt hv]; rfl
    | succ m ih =>
      intro hm
      rw [readV, ih (by omega), bitI_wrL h N hi, if_pos (by omega), show A + m - A = m by omega]
      have := nat_bits v N m hv (by omega)
      omega
  rw [key N (Nat.le_refl _)]
  simp

/-! ## Pack -/
def wN (ws : List Int) (i : Nat) : Nat := (ws.getD i 0).toNat
def sumN (ws : List Int) : Nat → Nat
  | 0 => 0
  | m + 1 => sumN ws m + wN ws m
def pkBad (ws vs : List Int) (i : Nat) : Prop := ws.getD i 0 < 0 ∨ 32 < ws.getD i 0 ∨ vs.getD i 0 < 0 ∨ 2 ^ (wN ws i) ≤ vs.getD i 0
noncomputable def pkE (ws vs : List Int) : Int :=
  open Classical in
  if ws.length ≠ vs.length ∨ 256 < ws.length then 2 else if ∃ i, i < ws.length ∧ pkBad ws vs i then 3 else 0
def pkT (ws : List Int) : Nat := (sumN ws ws.length + 7) / 8
def pkL (ws vs : List Int) : Nat → List Int
  | 0 => List.replicate (pkT ws) 0
  | m + 1 => wrL (pkL ws vs m) (sumN ws m) (vs.getD m 0).toNat (wN ws m) (wN ws m)
noncomputable def pkR (ws vs : List Int) : List Int := open Classical in if pkE ws vs = 0 then pkL ws vs ws.length else []

theorem pkL_length (ws vs : List Int) : ∀ m, (pkL ws vs m).length = pkT ws
  | 0 => by simp [pkL]
  | m + 1 => by rw [pkL, wrL_length, pkL_length]
theorem pkL_bytes (ws vs : List Int) : ∀ m, Bytes (pkL ws vs m)
  | 0 => fun i hi => by simp [pkL]
  | m + 1 => wrL_bytes (pkL_bytes ws vs m) _ _ _ _
theorem sumN_mono (ws : List Int) {a b : Nat} (h : a ≤ b) : sumN ws a ≤ sumN ws b := by
  induction b with
  | zero => obtain rfl : a = 0 := by omega
            exact Nat.le_refl _
  | succ b ih =>
    rcases Nat.lt_or_ge a (b + 1) with h1 | h1
    · have := ih (by omega); simp only [sumN]; omega
    · obtain rfl : a = b + 1 := by omega
      exact Nat.le_refl _
theorem sumN_le {ws : List Int} {k : Nat} (h : ∀ i, i < k → wN ws i ≤ 32) : sumN ws k ≤ 32 * k := by
  induction k with
  | zero => simp [sumN]
  | succ k ih => have := ih fun i hi => h i (by omega); have := h k (by omega); simp only [sumN]; omega

def PkOut (w : World) (L : List Int) (E : Int) (e : Ending) (w' : World) : Prop := WrOut w L E e w'

section
variable {wa va : Option Addr} {wc vc : Nat} {ws vs : List Int} {w : World}
theorem made_zero (n : Nat) : madeCells #[Value.int .u8 0] n = ((List.replicate n (0 : Int)).map (Value.int .u8)).toArray := by
  apply Array.ext'
  rw [toList_madeCells_one]
  simp
theorem seven_div {n : Nat} (h : n ≤ 1099511627776) : IntKind.wrap .i64 (Int.tdiv (IntKind.wrap .i64 ((n : Int) + 7)) 8) = (((n + 7) / 8 : Nat) : Int) := by
  rw [wrap_id ((n : Int) + 7) (by omega)]
  have : Int.tdiv ((n : Int) + 7) 8 = (((n + 7) / 8 : Nat) : Int) := by
    rw [show (n : Int) + 7 = ((n + 7 : Nat) : Int) by omega]; rfl
  rw [this, wrap_id _ (by omega)]
theorem pk2 (h : ws.length ≠ vs.length ∨ 256 < ws.length) : pkE ws vs = 2 ∧ pkR ws vs = [] := by
  have : pkE ws vs = 2 := by unfold pkE; rw [if_pos h]
  exact ⟨this, by unfold pkR; rw [if_neg (by omega)]⟩
theorem pk3 (h : ¬ (ws.length ≠ vs.length ∨ 256 < ws.length)) {i : Nat} (hi : i < ws.length) (hb : pkBad ws vs i) : pkE ws vs = 3 ∧ pkR ws vs = [] := by
  have : pkE ws vs = 3 := by unfold pkE; rw [if_neg h, if_pos ⟨i, hi, hb⟩]
  exact ⟨this, by unfold pkR; rw [if_neg (by omega)]⟩
theorem pk0 (h : ¬ (ws.length ≠ vs.length ∨ 256 < ws.length)) (hg : ∀ i, i < ws.length → ¬ pkBad ws vs i) : pkE ws vs = 0 ∧ pkR ws vs = pkL ws vs ws.length := by
  have : pkE ws vs = 0 := by unfold pkE; rw [if_neg h, if_neg (by rintro ⟨i, hi, hb⟩; exact hg i hi hb)]
  exact ⟨this, by unfold pkR; rw [if_pos this]⟩
theorem good_n {i : Nat} (h : ¬ pkBad ws vs i) : ∃ n v : Nat, ws.getD i 0 = n ∧ vs.getD i 0 = v ∧ n ≤ 32 ∧ wN ws i = n ∧ v < 2 ^ n ∧ v < 4294967296 := by
  unfold pkBad at h
  obtain ⟨n, hn⟩ := natOf (show 0 ≤ ws.getD i 0 by omega)
  obtain ⟨v, hv⟩ := natOf (show 0 ≤ vs.getD i 0 by omega)
  have e : wN ws i = n := by unfold wN; rw [hn, Int.toNat_natCast]
  rw [e, hv, hn, two_pow_cast] at h
  have hp : 2 ^ n ≤ 2 ^ 32 := Nat.pow_le_pow_right (by decide) (show n ≤ 32 by omega)
  exact ⟨n, v, hn, hv, by omega, e, by omega, by omega⟩

theorem pack_ok (ha : SlR (IntC .i64) 1 w wa ws) (hv : SlR (IntC .i64) 1 w va vs) :
    Calls Try.prog N_bits_Pack #[.slice wa ws.length wc, .slice va vs.length vc] w (WrOut w (pkR ws vs) (pkE ws vs)) := by
  apply F_bits_Pack_ok
  unfold F_bits_Pack
  refine ⟨fun w1 => w1 = w ∧ ¬ (ws.length ≠ vs.length ∨ 256 < ws.length), ?_, ?_⟩
  · rintro _ w1 ⟨rfl, hg⟩
    refine ⟨fun total x => ((ws.length - x).toNat, fun w2 => w2 = w1 ∧ ∃ k : Nat, x = k ∧ k ≤ ws.length ∧ total = (sumN ws k : Nat) ∧ ∀ i, i < k → ¬ pkBad ws vs i), ⟨rfl, 0, rfl, by omega, rfl, fun i hi => by omega⟩, ?_⟩
    rintro _ total x w2 ⟨rfl, k, rfl, hk, rfl, hgood⟩
    have hs := sumN_le (ws := ws) (k := k) fun i hi => by obtain ⟨n, v, _, _, h1, h2, _⟩ := good_n (hgood i hi); omega
    refine bsplit_dec (fun hlt => ?_) (fun hge => ?_)
    · have hlt : k < ws.length := by omega
      obtain ⟨p, rfl, hp⟩ := ha.get hlt
      obtain ⟨q, rfl, hq⟩ := hv.get (i := k) (by omega)
      refine ⟨p, rfl, ⟨by omega, by omega⟩, ws[k], hp, q, rfl, ⟨by omega, by omega⟩, vs[k]'(by omega), hq, ?_⟩
      refine (fits_ok _ _ w2).mono ?_
      rintro _ w3 ⟨rfl, rfl⟩
      have hbad : pkBad ws vs k ↔ ¬ (0 ≤ ws[k] ∧ ws[k] ≤ 32 ∧ 0 ≤ vs[k]'(by omega) ∧ vs[k]'(by omega) < 2 ^ (ws[k]).toNat) := by
        unfold pkBad wN
        rw [getD_at hlt, getD_at (show k < vs.length by omega)]
        omega
      refine ⟨_, rfl, bsplit_intro (fun hi => ?_) (fun hi => ?_)⟩
      · simp only [Bool.not_eq_true', decide_eq_false_iff_not] at hi
        obtain ⟨h1, h2⟩ := pk3 hg hlt (hbad.2 hi)
        exact .bad h2 h1
      · simp only [Bool.not_eq_false', decide_eq_true_eq] at hi
        have hnb : ¬ pkBad ws vs k := fun h => hbad.1 h hi
        obtain ⟨n, v, hn, _, hn32, hwn, _⟩ := good_n hnb
        rw [getD_at hlt] at hn
        rw [hn, wrap_id (((sumN ws k : Nat) : Int) + n) (by omega), wrap_id ((k : Int) + 1) (by omega)]
        intro total1
        refine ⟨⟨rfl, k + 1, by omega, by omega, by simp only [total1, sumN, hwn]; omega, fun i hi => ?_⟩, by simp; omega⟩
        by_cases hik : i = k
        · subst hik; exact hnb
        · exact hgood i (by omega)
    · obtain rfl : k = ws.length := by omega
      obtain ⟨hE, hR⟩ := pk0 hg hgood
      rw [seven_div (by omega), hE, hR]
      have hT : (sumN ws ws.length + 7) / 8 = pkT ws := rfl
      rw [hT]
      have hT2 : pkT ws ≤ 1025 := by unfold pkT; omega
      refine ⟨⟨by omega, by omega, by omega, by omega⟩, ?_⟩
      intro w4
      have ho4 : OwnI w4 w2.heap.size Ty_uint8 .u8 (some (nb w2)) (pkT ws) (pkT ws) (List.replicate (pkT ws) 0) := by
        have := OwnI.lit (base := w2.heap.size) w2 Ty_uint8 .u8 (List.replicate (pkT ws) 0) (cs := madeCells #[Value.int .u8 0] (pkT ws)) (made_zero _) (Nat.le_refl _) (by simp [maxLen]; omega)
        simpa [w4] using this
      have hb4 : Below w2.heap.size w2 w4 := (Below.refl _ _).alloc (Nat.le_refl _) _
      clear_value w4
      rw [Int.toNat_natCast]
      refine ⟨fun at1 x => ((ws.length - x).toNat, fun w5 => ∃ k : Nat, x = k ∧ k ≤ ws.length ∧ at1 = (sumN ws k : Nat) ∧ OwnI w5 w2.heap.size Ty_uint8 .u8 (some (nb w2)) (pkT ws) (pkT ws) (pkL ws vs k) ∧ Below w2.heap.size w2 w5), ⟨0, rfl, by omega, rfl, ho4, hb4⟩, ?_⟩
      rintro _ at1 x w5 ⟨k, rfl, hk, rfl, ho5, hb5⟩
      refine bsplit_dec (fun hlt => ?_) (fun hge => ?_)
      · have hlt : k < ws.length := by omega
        obtain ⟨p, rfl, hp⟩ := (ha.below hb5).get hlt
        obtain ⟨q, rfl, hq⟩ := (hv.below hb5).get (i := k) (by omega)
        obtain ⟨n, v, hn, hvv, hn32, hwn, hv1, hv2⟩ := good_n (hgood k hlt)
        rw [getD_at hlt] at hn
        have hvv' := hvv
        rw [getD_at (show k < vs.length by omega)] at hvv
        unfold IntC at hp hq
        rw [hn] at hp
        rw [hvv] at hq
        have hkm := sumN_mono ws (show k + 1 ≤ ws.length by omega)
        simp only [sumN, hwn] at hkm
        refine ⟨p, rfl, ⟨by omega, by omega⟩, _, hp, q, rfl, ⟨by omega, by omega⟩, _, hq, ?_⟩
        have hlen := pkL_length ws vs k
        have := set_ok (c := pkT ws) (w := w5) (base := w2.heap.size) (a := some (nb w2)) (xs := pkL ws vs k) (by rw [hlen]; exact ho5) (pkL_bytes ws vs k) (by omega) (A := sumN ws k) (N := n) (v := v) hn32 (by rw [hlen]; unfold pkT; omega) hv2
        rw [hlen] at this
        refine this.mono ?_
        rintro _ w6 ⟨rfl, ho6, hb6⟩
        refine ⟨rfl, ?_⟩
        rw [wrap_id (((sumN ws k : Nat) : Int) + n) (by omega), wrap_id ((k : Int) + 1) (by omega)]
        intro at2
        refine ⟨⟨k + 1, by omega, by omega, by simp only [at2, sumN, hwn]; omega, ?_, hb5.trans hb6⟩, by simp; omega⟩
        simp only [pkL]
        rw [hvv', hwn, Int.toNat_natCast]
        exact ho6
      · obtain rfl : k = ws.length := by omega
        exact ⟨some (nb w2), pkT ws, by rw [pkL_length], by rw [pkL_length]; exact ho5, hb5⟩
  · refine bsplit_intro (fun h => ?_) (fun h => ?_)
    · obtain ⟨h1, h2⟩ := pk2 (ws := ws) (vs := vs) (.inl (by simp at h; omega))
      exact .bad h2 h1
    · refine bsplit_dec (fun h2 => ?_) (fun h2 => ⟨rfl, by simp at h; omega⟩)
      obtain ⟨h1, h2⟩ := pk2 (ws := ws) (vs := vs) (.inr (by omega))
      exact .bad h2 h1

theorem refPack_ok (ha : SlR (IntC .i64) 1 w wa ws) (hv : SlR (IntC .i64) 1 w va vs) :
    Calls Try.prog N_ref01_Pack #[.slice wa ws.length wc, .slice va vs.length vc] w (WrOut w (pkR ws vs) (pkE ws vs)) := by
  apply F_ref01_Pack_ok
  unfold F_ref01_Pack
  refine ⟨fun w1 => w1 = w ∧ ¬ (ws.length ≠ vs.length ∨ 256 < ws.length), ?_, ?_⟩
  · rintro _ w1 ⟨rfl, hg⟩
    refine ⟨fun total x => ((ws.length - x).toNat, fun w2 => Below w1.heap.size w1 w2 ∧ ∃ k : Nat, x = k ∧ k ≤ ws.length ∧ total = (sumN ws k : Nat) ∧ ∀ i, i < k → ¬ pkBad ws vs i), ⟨.refl _ _, 0, rfl, by omega, rfl, fun i hi => by omega⟩, ?_⟩
    rintro _ total x w2 ⟨hb2, k, rfl, hk, rfl, hgood⟩
    have hs := sumN_le (ws := ws) (k := k) fun i hi => by obtain ⟨n, v, _, _, h1, h2, _⟩ := good_n (hgood i hi); omega
    refine bsplit_dec (fun hlt => ?_) (fun hge => ?_)
    · have hlt : k < ws.length := by omega
      have hlt2 : k < vs.length := by omega
      refine ⟨fun x5 w4 => Below w1.heap.size w1 w4 ∧ (x5 = true ↔ pkBad ws vs k), ?_, ?_⟩
      · rintro _ x5 w4 ⟨hb4, hx5⟩
        refine bsplit_intro (fun ht => ?_) (fun hf => ?_)
        · obtain ⟨h1, h2⟩ := pk3 hg hlt (hx5.1 ht)
          rw [h1, h2]
          exact ⟨none, 0, rfl, OwnI.nil_ .., hb4⟩
        · have hnb : ¬ pkBad ws vs k := fun h => by rw [hx5.2 h] at hf; cases hf
          obtain ⟨n, v, hn, _, hn32, hwn, _⟩ := good_n hnb
          rw [getD_at hlt] at hn
          obtain ⟨p, rfl, hp⟩ := (ha.below hb4).get hlt
          unfold IntC at hp
          rw [hn] at hp
          refine ⟨p, rfl, ⟨by omega, by omega⟩, _, hp, ?_⟩
          rw [wrap_id (((sumN ws k : Nat) : Int) + n) (by omega), wrap_id ((k : Int) + 1) (by omega)]
          intro total1 i1
          refine ⟨⟨hb4, k + 1, by simp only [i1]; omega, by omega, by simp only [total1, sumN, hwn]; omega, fun i hi => ?_⟩, by simp [i1]; omega⟩
          by_cases hik : i = k
          · subst hik; exact hnb
          · exact hgood i (by omega)
      · intro w3
        have hb3 : Below w1.heap.size w1 w3 := hb2.drew
        clear_value w3
        obtain ⟨p, rfl, hp⟩ := (ha.below hb3).get hlt
        obtain ⟨q, rfl, hq⟩ := (hv.below hb3).get hlt2
        have hbad : pkBad ws vs k ↔ (ws[k] < 0 ∨ 32 < ws[k] ∨ vs[k] < 0 ∨ 2 ^ (ws[k]).toNat ≤ vs[k]) := by
          unfold pkBad wN
          rw [getD_at hlt, getD_at hlt2]
        refine ⟨p, rfl, ⟨by omega, by omega⟩, _, hp, bsplit_dec (fun h => ⟨hb3, by rw [hbad]; simp; omega⟩) (fun h1 => ?_)⟩
        refine ⟨p, rfl, ⟨by omega, by omega⟩, _, hp, bsplit_dec (fun h => ⟨hb3, by rw [hbad]; simp; omega⟩) (fun h2 => ?_)⟩
        refine ⟨q, rfl, ⟨by omega, by omega⟩, _, hq, bsplit_dec (fun h => ⟨hb3, by rw [hbad]; simp; omega⟩) (fun h3 => ?_)⟩
        refine ⟨q, rfl, ⟨by omega, by omega⟩, _, hq, p, rfl, ⟨by omega, by omega⟩, _, hp, ?_⟩
        obtain ⟨N, hN⟩ := natOf (show 0 ≤ ws[k] by omega)
        rw [hbad, hN, u64_id N (by omega), shl_one (by omega), Int.toNat_natCast]
        refine ⟨by omega, hb3, ?_⟩
        rw [decide_eq_true_eq]
        omega
    · obtain rfl : k = ws.length := by omega
      obtain ⟨hE, hR⟩ := pk0 hg hgood
      rw [seven_div (by omega), hE, hR]
      have hT : (sumN ws ws.length + 7) / 8 = pkT ws := rfl
      rw [hT]
      have hT2 : pkT ws ≤ 1025 := by unfold pkT; omega
      refine ⟨⟨by omega, by omega, by omega, by omega⟩, ?_⟩
      intro w4
      have ho4 : OwnI w4 w1.heap.size Ty_uint8 .u8 (some (nb w2)) (pkT ws) (pkT ws) (List.replicate (pkT ws) 0) := by
        have := OwnI.lit (base := w1.heap.size) w2 Ty_uint8 .u8 (List.replicate (pkT ws) 0) (cs := madeCells #[Value.int .u8 0] (pkT ws)) (made_zero _) hb2.size (by simp [maxLen]; omega)
        simpa [w4] using this
      have hb4 : Below w1.heap.size w1 w4 := hb2.alloc hb2.size _
      clear_value w4
      rw [Int.toNat_natCast]
      refine ⟨fun oa ol oc at1 x => ((ws.length - x).toNat, fun w5 => ∃ k : Nat, x = k ∧ k ≤ ws.length ∧ at1 = (sumN ws k : Nat) ∧ ol = pkT ws ∧ OwnI w5 w1.heap.size Ty_uint8 .u8 oa (pkT ws) oc (pkL ws vs k) ∧ Below w1.heap.size w1 w5), ⟨0, rfl, by omega, rfl, rfl, ho4, hb4⟩, ?_⟩
      rintro _ oa ol oc at1 x w5 ⟨k, rfl, hk, rfl, rfl, ho5, hb5⟩
      refine bsplit_dec (fun hlt => ?_) (fun hge => ?_)
      · have hlt : k < ws.length := by omega
        intro w7
        have ho7 : OwnI w7 w1.heap.size Ty_uint8 .u8 oa (pkT ws) oc (pkL ws vs k) := ho5
        have hb7 : Below w1.heap.size w1 w7 := hb5.drew
        clear_value w7
        obtain ⟨p, rfl, hp⟩ := (ha.below hb7).get hlt
        obtain ⟨q, rfl, hq⟩ := (hv.below hb7).get (i := k) (by omega)
        obtain ⟨n, v, hn, hvv, hn32, hwn, hv1, hv2⟩ := good_n (hgood k hlt)
        rw [getD_at hlt] at hn
        have hvv' := hvv
        rw [getD_at (show k < vs.length by omega)] at hvv
        have hp' := hp
        unfold IntC at hp hq
        rw [hn] at hp
        rw [hvv] at hq
        have hkm := sumN_mono ws (show k + 1 ≤ ws.length by omega)
        simp only [sumN, hwn] at hkm
        refine ⟨(· < w7.heap.size), p, rfl, ⟨by omega, by omega⟩, cell_lt hp, _, hp, q, rfl, ⟨by omega, by omega⟩, cell_lt hq, _, hq, ?_⟩
        have hlen := pkL_length ws vs k
        have := refWrite_ok (c := oc) (w := w7) (a := oa) (xs := pkL ws vs k) (at1 := (sumN ws k : Nat)) (n := n) (v := v) ho7.sl (pkL_bytes ws vs k) (by omega)
        rw [hlen] at this
        refine this.mono ?_
        rintro _ w8 ⟨a', c', rfl, ho8, hb8⟩
        have hwE : wrE (pkL ws vs k) (sumN ws k : Nat) n v = 0 := by
          unfold wrE
          rw [if_neg (by rw [Int.toNat_natCast, two_pow_cast]; omega), if_neg (by rw [hlen]; unfold pkT; omega)]
        have hwR : wrR (pkL ws vs k) (sumN ws k : Nat) n v = pkL ws vs (k + 1) := by
          unfold wrR
          rw [if_pos hwE]
          simp only [pkL, Int.toNat_natCast]
          rw [hvv', hwn, Int.toNat_natCast]
        rw [hwR, pkL_length] at ho8
        rw [hwR, pkL_length, hwE]
        have hb78 := below_step hb7 (Nat.le_refl _) hb8
        refine ⟨_, _, _, _, rfl, hb8.keeps, p, rfl, ⟨by omega, by omega⟩, _, hb8.get hp, ?_⟩
        rw [wrap_id (((sumN ws k : Nat) : Int) + n) (by omega), wrap_id ((k : Int) + 1) (by omega)]
        intro at2 i3
        exact ⟨⟨k + 1, by simp only [i3]; omega, by omega, by simp only [at2, sumN, hwn]; omega, rfl, ho8.weaken hb7.size, hb78⟩, by simp [i3]; omega⟩
      · obtain rfl : k = ws.length := by omega
        exact ⟨oa, oc, by rw [pkL_length], by rw [pkL_length]; exact ho5, hb5⟩
  · refine bsplit_intro (fun h => ?_) (fun h => ?_)
    · obtain ⟨h1, h2⟩ := pk2 (ws := ws) (vs := vs) (.inl (by simp at h; omega))
      exact .bad h2 h1
    · refine bsplit_dec (fun h2 => ?_) (fun h2 => ⟨rfl, by simp at h; omega⟩)
      obtain ⟨h1, h2⟩ := pk2 (ws := ws) (vs := vs) (.inr (by omega))
      exact .bad h2 h1
end
end Go.Proofs.Yteoogdpjidbapaa
