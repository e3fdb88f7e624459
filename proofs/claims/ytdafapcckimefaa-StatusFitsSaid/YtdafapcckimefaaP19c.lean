import Derived.Test.YtdafapcckimefaaP19b
import Derived.Test.YtdafapcckimefaaW19c
/- Chapter 19, plain: what was encoded is decoded; what fits is a beginning. -/
namespace Go.Sx
theorem chain_iff {b u : Int} : ∀ {L : List Rg} {p : Option Rg}, chainB b u p L = true ↔ (∀ k (h : k < L.length), ownR b u L[k]) ∧ (∀ h : 0 < L.length, linkO b u p L[0]) ∧ ∀ k (h : k + 1 < L.length), linkR b u L[k] L[k + 1]
  | [], p => by simp [chainB]
  | x :: L, p => by
    simp only [chainB, Bool.and_eq_true, decide_eq_true_iff, chain_iff (L := L)]
    constructor
    · rintro ⟨⟨h1, h2⟩, h3, h4, h5⟩
      refine ⟨fun k h => ?_, fun _ => h2, fun k h => ?_⟩
      · cases k with
        | zero => exact h1
        | succ k => exact h3 k (by simpa using h)
      · cases k with
        | zero => exact h4 (by simpa using h)
        | succ k => exact h5 k (by simpa using h)
    · rintro ⟨h1, h2, h3⟩
      exact ⟨⟨h1 0 (by simp), h2 (by simp)⟩, fun k h => h1 (k + 1) (by simpa using h), fun h => h3 0 (by simpa using h), fun k h => h3 (k + 1) (by simpa using h)⟩
theorem ok_take {b u : Int} {L : List Rg} (h : okS b ⟨u, L⟩) (g : Nat) : okS b ⟨u, L.take g⟩ := by
  obtain ⟨h1, h2, h3, h4⟩ := h
  simp only at h2 h3 h4
  refine ⟨h1, h2, by simp; omega, ?_⟩
  rw [chain_iff] at h4 ⊢
  refine ⟨fun k hk => ?_, fun _ => trivial, fun k hk => ?_⟩
  · simp only [List.getElem_take]; exact h4.1 k (by simp at hk; omega)
  · simp only [List.getElem_take]; exact h4.2.2 k (by simp at hk; omega)
theorem rd_enc {b u : Int} : ∀ (L : List Rg), bitsOk b → (∀ r ∈ L, ownR b u r) → rdR L.length (L.flatMap encB) = some L
  | [], _, _ => rfl
  | r :: L, hb, h => by
    have ih := rd_enc L hb fun x hx => h x (by simp [hx])
    obtain ⟨⟨h1, h2⟩, _, h3⟩ := h r (by simp)
    have hp := pow_bits hb
    rw [List.flatMap_cons, List.length_cons]
    unfold encB
    split
    · rename_i hw
      have e : 256 * (16 * r.sn / 256 % 256) + 16 * r.sn % 256 = 16 * r.sn := by omega
      show rdR (L.length + 1) (_ :: _ :: L.flatMap encB) = _
      unfold rdR
      rw [e, if_neg (by omega), ih]
      have : (⟨16 * r.sn / 16, 0, 0⟩ : Rg) = r := by
        cases r; simp only [whole] at hw; simp only [Rg.mk.injEq]; omega
      rw [this]; rfl
    · rename_i hw
      obtain ⟨p1, p2, p3⟩ := h3.resolve_left hw
      have e : 256 * ((16 * r.sn + 1) / 256 % 256) + (16 * r.sn + 1) % 256 = 16 * r.sn + 1 := by omega
      show rdR (L.length + 1) (_ :: _ :: (r.f / 256 % 256) :: (r.f % 256) :: (r.t / 256 % 256) :: (r.t % 256) :: L.flatMap encB) = _
      unfold rdR
      rw [e, if_pos (by omega)]
      simp only
      rw [ih]
      have : (⟨(16 * r.sn + 1) / 16, 256 * (r.f / 256 % 256) + r.f % 256, 256 * (r.t / 256 % 256) + r.t % 256⟩ : Rg) = r := by
        cases r; simp only at p1 p2 p3 h1 h2 ⊢; simp only [Rg.mk.injEq]; omega
      rw [this]; rfl
theorem dec_enc {b : Int} {s : Stt} (h : okS b s) : decS b (bytesS s) = (s, 0) := by
  obtain ⟨u, L⟩ := s
  have h0 := h
  obtain ⟨h1, h2, h3, h4⟩ := h
  simp only at h2 h3 h4
  have hp := pow_bits h1
  have hr : rdS (bytesS ⟨u, L⟩) = some ⟨u, L⟩ := by
    show (rdR ((L.length : Int) % 256).toNat (L.flatMap encB)).map (fun x => (⟨256 * (u / 256 % 256) + u % 256, x⟩ : Stt)) = _
    have e1 : ((L.length : Int) % 256).toNat = L.length := by omega
    rw [e1, rd_enc L h1 (chain_own h4)]
    have e2 : 256 * (u / 256 % 256) + u % 256 = u := by omega
    simp [e2]
  unfold decS
  rw [if_neg (not_not_intro h1), hr]
  simp only
  rw [if_pos ⟨h0, trivial⟩]
/-- the bytes that ranges need -/
def sumS : List Rg → Int
  | [] => 0
  | r :: L => szR r + sumS L
theorem sumS_append (L M : List Rg) : sumS (L ++ M) = sumS L + sumS M := by
  induction L with
  | nil => simp [sumS]
  | cons r L ih => simp [sumS, ih]; omega
theorem sumS_nonneg (L : List Rg) : 0 ≤ sumS L := by
  induction L with
  | nil => simp [sumS]
  | cons r L ih => have := szR_pos r; simp [sumS]; omega
theorem bytesS_sum (s : Stt) : ((bytesS s).length : Int) = 3 + sumS s.miss := by
  have key : ∀ L : List Rg, ((L.flatMap encB).length : Int) = sumS L := by
    intro L
    induction L with
    | nil => rfl
    | cons r L ih =>
      rw [List.flatMap_cons, List.length_append]
      have : ((encB r).length : Int) = szR r := by unfold encB szR; split <;> simp [be16]
      simp only [sumS]; omega
  have := key s.miss
  simp only [bytesS, List.length_append, List.length_cons, be16, List.length_nil]
  omega
theorem sumS_take (L : List Rg) (k : Nat) (h : k < L.length) : sumS (L.take (k + 1)) = sumS (L.take k) + szR L[k] := by
  rw [List.take_add_one, List.getElem?_eq_getElem h, sumS_append]; simp [sumS]
theorem sumS_mono (L : List Rg) {i j : Nat} (h : i ≤ j) : sumS (L.take i) ≤ sumS (L.take j) := by
  have e : L.take j = L.take i ++ (L.drop i).take (j - i) := by
    have e1 : L.take j = L.take (i + (j - i)) := by rw [show i + (j - i) = j by omega]
    rw [e1, List.take_add]
  rw [e, sumS_append]
  have := sumS_nonneg ((L.drop i).take (j - i))
  omega
/-- a unit that begins at i goes on up to k -/
def OneU (L : List Rg) (i k : Nat) : Prop := (∀ j (h : j + 1 < L.length), i = j + 1 → L[j].sn ≠ L[j + 1].sn) ∧ ∀ j (h : j < L.length) (h2 : i < L.length), i ≤ j → j < k → L[j].sn = L[i].sn
theorem fit_form (sp u : Int) (L : List Rg) : ∀ (n k : Nat) (unit : Nat), n = L.length - k → k ≤ L.length → 3 + sumS (L.take k) ≤ sp → OneU L unit k → unit ≤ k → (0 < k → unit < k) →
    (fitS sp u L k (3 + sumS (L.take k)) unit (prevR L k) (L.drop k) = ⟨u, L⟩ ∧ 3 + sumS L ≤ sp) ∨
    ∃ (i m : Nat) (hi : i < L.length), i ≤ m ∧ m < L.length ∧ fitS sp u L k (3 + sumS (L.take k)) unit (prevR L k) (L.drop k) = ⟨L[i].sn, L.take i⟩ ∧ OneU L i (m + 1) ∧ 3 + sumS (L.take m) ≤ sp ∧ sp < 3 + sumS (L.take (m + 1))
  | 0, k, unit, hn, hk, hs, _, _, _ => by
    obtain rfl : k = L.length := by omega
    rw [List.take_length] at hs
    rw [List.drop_length]
    exact .inl ⟨rfl, hs⟩
  | n + 1, k, unit, hn, hk, hs, h1, huk, huk2 => by
    have hlt : k < L.length := by omega
    have hu : OneU L (unitOf k (prevR L k) unit L[k]) (k + 1) ∧ unitOf k (prevR L k) unit L[k] ≤ k := by
      cases k with
      | zero =>
        have : unit = 0 := by omega
        subst this
        have e : unitOf 0 (prevR L 0) 0 L[0] = 0 := rfl
        rw [e]
        refine ⟨⟨fun j h e => by omega, fun j h h2 a b => ?_⟩, Nat.le_refl _⟩
        obtain rfl : j = 0 := by omega
        rfl
      | succ j =>
        have hj : j < L.length := by omega
        have hul := huk2 (by omega)
        have e : unitOf (j + 1) (prevR L (j + 1)) unit L[j + 1] = if L[j + 1].sn ≠ L[j].sn then j + 1 else unit := by simp only [unitOf, prevR, List.getElem?_eq_getElem hj]
        rw [e]
        by_cases c : L[j + 1].sn = L[j].sn
        · rw [if_neg (not_not_intro c)]
          refine ⟨⟨h1.1, fun i h h2 a b => ?_⟩, by omega⟩
          rcases (show i < j + 1 ∨ i = j + 1 by omega) with h3 | rfl
          · exact h1.2 i h h2 a h3
          · rw [c]; exact h1.2 j hj h2 (by omega) (by omega)
        · rw [if_pos c]
          refine ⟨⟨fun i h e => ?_, fun i h h2 a b => ?_⟩, by omega⟩
          · obtain rfl : j = i := by omega
            exact fun h => c h.symm
          · obtain rfl : i = j + 1 := by omega
            rfl
    rw [fit_step _ _ _ _ _ _ hlt]
    obtain ⟨u', hu'⟩ : ∃ u', u' = unitOf k (prevR L k) unit L[k] := ⟨_, rfl⟩
    rw [← hu'] at hu ⊢
    have hst := sumS_take L k hlt
    have hul : u' < L.length := by omega
    by_cases c : 3 + sumS (L.take k) + szR L[k] > sp
    · rw [if_pos c]
      have hsn : L[k].sn = L[u'].sn := hu.1.2 k hlt hul hu.2 (by omega)
      exact .inr ⟨u', k, hul, hu.2, hlt, by rw [hsn], hu.1, hs, by omega⟩
    · rw [if_neg c]
      have e : 3 + sumS (L.take k) + szR L[k] = 3 + sumS (L.take (k + 1)) := by omega
      rw [e]
      exact fit_form sp u L n (k + 1) u' (by omega) (by omega) (by omega) hu.1 (by omega) (fun _ => by omega)
theorem way_sub {b u x y : Int} (hb : bitsOk b) (h : way b x u > way b y u) : way b x y = way b x u - way b y u := by
  have hr := way_range b x u; have hr2 := way_range b y u
  unfold way at *
  have : (y - x) % 2 ^ b.toNat = ((u - x) % 2 ^ b.toNat - (u - y) % 2 ^ b.toNat) % 2 ^ b.toNat := by
    rw [← Int.sub_emod]; congr 1; omega
  rw [this]
  exact Int.emod_eq_of_lt (by omega) (by omega)
theorem way_inj {b u x y : Int} (hx : 0 ≤ x ∧ x < 2 ^ b.toNat) (hy : 0 ≤ y ∧ y < 2 ^ b.toNat) (h : way b x u = way b y u) : x = y := by
  unfold way at h
  have h2 : ((u - x) - (u - y)) % 2 ^ b.toNat = 0 := by rw [Int.sub_emod, h, Int.sub_self]; rfl
  have e : (u - x) - (u - y) = y - x := by omega
  rw [e] at h2
  obtain ⟨q, hq⟩ := Int.dvd_of_emod_eq_zero h2
  have hp : (0 : Int) < 2 ^ b.toNat := by omega
  obtain ⟨M, hM⟩ : ∃ M, M = (2 : Int) ^ b.toNat := ⟨_, rfl⟩
  rw [← hM] at hx hy hq hp
  rcases Int.lt_trichotomy q 0 with c | c | c
  · have : M * q ≤ M * (-1) := Int.mul_le_mul_of_nonneg_left (by omega) (by omega)
    omega
  · subst c; omega
  · have : M * 1 ≤ M * q := Int.mul_le_mul_of_nonneg_left (by omega) (by omega)
    omega
theorem chain_mono {b u : Int} {L : List Rg} (h : chainB b u none L = true) : ∀ (d j : Nat) (hj : j + d < L.length), way b L[j + d].sn u ≤ way b L[j].sn u
  | 0, j, hj => Int.le_refl _
  | d + 1, j, hj => by
    have := chain_mono h d j (by omega)
    have h2 := ((chain_iff.1 h).2.2 (j + d) (by omega)).1
    exact Int.le_trans h2 this
/-- what fits of a valid report -/
theorem fits_law {b sp u : Int} {L : List Rg} (h : okS b ⟨u, L⟩) (hsp : 3 ≤ sp) {X : Stt} (hX : X = fitS sp u L 0 3 0 none L) :
    okS b X ∧ ((bytesS X).length : Int) ≤ sp ∧ (X = ⟨u, L⟩ ∨ ∃ (i : Nat) (hi : i < L.length), X = ⟨L[i].sn, L.take i⟩ ∧ (∀ j (hj : j + 1 < L.length), i = j + 1 → L[j].sn ≠ L[i].sn) ∧ 1 ≤ way b L[i].sn u ∧
      ∀ g, i < g → g ≤ L.length → (∀ hg : g < L.length, L[g].sn ≠ L[i].sn) → sp < ((bytesS ⟨u, L.take g⟩).length : Int)) := by
  have h0 := h
  obtain ⟨h1, h2, h3, h4⟩ := h
  simp only at h2 h3 h4
  have hc := chain_iff.1 h4
  rcases fit_form sp u L L.length 0 0 (by omega) (by omega) (by simpa [sumS] using hsp) ⟨fun j h e => by omega, fun j h h2 a b => by omega⟩ (by omega) (by omega) with ⟨f1, f2⟩ | ⟨i, m, hi, him, hm, f1, f2, f3, f4⟩
  · have f1 : X = ⟨u, L⟩ := by rw [hX]; simpa [sumS, prevR] using f1
    subst f1
    exact ⟨h0, by rw [bytesS_sum]; exact f2, .inl rfl⟩
  · have f1 : X = ⟨L[i].sn, L.take i⟩ := by rw [hX]; simpa [sumS, prevR] using f1
    have hoi := hc.1 i hi
    have hgt : ∀ k (hk : k < i), way b (L[k]'(by omega)).sn u > way b L[i].sn u := fun k hk => by
      obtain ⟨j, rfl⟩ : ∃ j, i = j + 1 := ⟨i - 1, by omega⟩
      have hj : j + 1 < L.length := hi
      have hne := f2.1 j hj rfl
      have hl := ((hc.2.2) j hj).1
      have hm := chain_mono h4 (j - k) k (by omega)
      have hoj := hc.1 j (by omega)
      have hjk : k + (j - k) = j := by omega
      simp only [hjk] at hm
      have : way b L[j].sn u ≠ way b L[j + 1].sn u := fun e => hne (way_inj hoj.1 hoi.1 e)
      omega
    have hwk : ∀ k (hk : k < i), way b (L[k]'(by omega)).sn L[i].sn = way b (L[k]'(by omega)).sn u - way b L[i].sn u := fun k hk => way_sub h1 (hgt k hk)
    subst f1
    refine ⟨⟨h1, hoi.1, by simp; omega, ?_⟩, by rw [bytesS_sum]; have := sumS_mono L him; simp only; omega, .inr ⟨i, hi, rfl, fun j hj e => ?_, hoi.2.1.1, fun g hg hgl hgn => ?_⟩⟩
    · rw [chain_iff]
      refine ⟨fun k hk => ?_, fun _ => trivial, fun k hk => ?_⟩
      · simp only [List.length_take] at hk
        simp only [List.getElem_take]
        have ho := hc.1 k (by omega)
        have := hgt k (by omega)
        refine ⟨ho.1, ?_, ho.2.2⟩
        rw [hwk k (by omega)]
        have := ho.2.1; have := hoi.2.1
        omega
      · simp only [List.length_take] at hk
        simp only [List.getElem_take]
        have hl := hc.2.2 k (by omega)
        unfold linkR at hl ⊢
        rw [hwk k (by omega), hwk (k + 1) (by omega)]
        exact ⟨by omega, fun e => hl.2 (by omega)⟩
    · subst e
      exact f2.1 j hj rfl
    · rw [bytesS_sum]
      have hgm : m + 1 ≤ g := by
        rcases Nat.lt_or_ge m g with h | h
        · exact h
        · exact absurd (f2.2 g (by omega) hi (by omega) (by omega)) (hgn (by omega))
      have := sumS_mono L hgm
      simp only; omega
end Go.Sx
