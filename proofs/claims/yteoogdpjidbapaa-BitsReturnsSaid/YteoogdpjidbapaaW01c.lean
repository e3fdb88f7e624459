import Derived.Test.YteoogdpjidbapaaW01b
namespace Go.Proofs.Yteoogdpjidbapaa
open Go.Sx Go.RowKit

/-! ## Unpack -/
def upBad (ws : List Int) (i : Nat) : Prop := ws.getD i 0 < 0 ∨ 32 < ws.getD i 0
noncomputable def upE (xs ws : List Int) : Int :=
  open Classical in
  if 256 < ws.length then 2 else if ∃ i, i < ws.length ∧ upBad ws i then 3 else
  if 8 * xs.length < sumN ws ws.length then 5 else if 8 ≤ 8 * xs.length - sumN ws ws.length then 4 else
  if readV xs (sumN ws ws.length) (8 * xs.length - sumN ws ws.length) ≠ 0 then 4 else 0
def upV (xs ws : List Int) (k : Nat) : List Int := (List.range k).map fun i => readV xs (sumN ws i) (wN ws i)
noncomputable def upR (xs ws : List Int) : List Int := open Classical in if upE xs ws = 0 then upV xs ws ws.length else []
theorem upV_length (xs ws : List Int) (k : Nat) : (upV xs ws k).length = k := by simp [upV]
theorem upV_succ (xs ws : List Int) (k : Nat) : upV xs ws (k + 1) = upV xs ws k ++ [readV xs (sumN ws k) (wN ws k)] := by simp [upV, List.range_succ]

def UpOut (w : World) (L : List Int) (E : Int) (e : Ending) (w' : World) : Prop :=
  ∃ a' c', e = .returned (.tuple #[.slice a' L.length c', .int .i64 E]) ∧ OwnI w' w.heap.size Ty_int .i64 a' L.length c' L ∧ Below w.heap.size w w'

section
variable {ba wa : Option Addr} {bc wc : Nat} {xs ws : List Int} {w : World}
theorem UpOut.bad {k : Int} (hE : upE xs ws = k) (hk : k ≠ 0) : UpOut w (upR xs ws) (upE xs ws) (.returned (.tuple #[.slice none 0 0, .int .i64 k])) w := by
  have : upR xs ws = [] := by unfold upR; rw [if_neg (by omega)]
  rw [this, hE]
  exact ⟨none, 0, rfl, OwnI.nil_ .., .refl _ _⟩
theorem up_n {i : Nat} (h : ¬ upBad ws i) : ∃ n : Nat, ws.getD i 0 = n ∧ n ≤ 32 ∧ wN ws i = n := by
  unfold upBad at h
  obtain ⟨n, hn⟩ := natOf (show 0 ≤ ws.getD i 0 by omega)
  exact ⟨n, hn, by omega, by unfold wN; rw [hn, Int.toNat_natCast]⟩

/-- the values are read -/
theorem rdOk {a n : Nat} (h : n ≤ 32) (hi : a + n ≤ 8 * xs.length) : rdE xs a n = 0 ∧ rdV xs a n = readV xs a n := by
  have : rdE xs a n = 0 := by unfold rdE; rw [if_neg (by omega), if_neg (by omega)]
  exact ⟨this, by unfold rdV; rw [if_pos this]; simp⟩

theorem unpack_ok (hb : SlR (IntC .u8) 1 w ba xs) (hx : Bytes xs) (hl : xs.length ≤ 140737488355328) (ha : SlR (IntC .i64) 1 w wa ws) :
    Calls Try.prog N_bits_Unpack #[.slice ba xs.length bc, .slice wa ws.length wc] w (UpOut w (upR xs ws) (upE xs ws)) := by
  apply F_bits_Unpack_ok
  unfold F_bits_Unpack
  refine bsplit_dec (fun h => .bad (k := 2) (by unfold upE; rw [if_pos (by omega)]) (by decide)) (fun h256 => ?_)
  refine ⟨fun total x => ((ws.length - x).toNat, fun w1 => w1 = w ∧ ∃ k : Nat, x = k ∧ k ≤ ws.length ∧ total = (sumN ws k : Nat) ∧ ∀ i, i < k → ¬ upBad ws i), ⟨rfl, 0, rfl, by omega, rfl, fun i hi => by omega⟩, ?_⟩
  rintro _ total x w1 ⟨rfl, k, rfl, hk, rfl, hgood⟩
  have hs := sumN_le (ws := ws) (k := k) fun i hi => by obtain ⟨n, _, h1, h2⟩ := up_n (hgood i hi); omega
  refine bsplit_dec (fun hlt => ?_) (fun hge => ?_)
  · have hlt : k < ws.length := by omega
    obtain ⟨p, rfl, hp⟩ := ha.get hlt
    refine ⟨p, rfl, ⟨by omega, by omega⟩, ws[k], hp, ?_⟩
    have bad : upBad ws k → UpOut w1 (upR xs ws) (upE xs ws) (.returned (.tuple #[.slice none 0 0, .int .i64 3])) w1 := fun hb => .bad (by unfold upE; rw [if_neg (by omega), if_pos ⟨k, hlt, hb⟩]) (by decide)
    have hbk : upBad ws k ↔ (ws[k] < 0 ∨ 32 < ws[k]) := by unfold upBad; rw [getD_at hlt]
    refine bsplit_dec (fun h => bad (by rw [hbk]; omega)) (fun h1 => bsplit_dec (fun h => bad (by rw [hbk]; omega)) (fun h2 => ?_))
    have hnb : ¬ upBad ws k := by rw [hbk]; omega
    obtain ⟨n, hn, hn32, hwn⟩ := up_n hnb
    rw [getD_at hlt] at hn
    rw [hn, wrap_id (((sumN ws k : Nat) : Int) + n) (by omega), wrap_id ((k : Int) + 1) (by omega)]
    intro total2
    refine ⟨⟨rfl, k + 1, by omega, by omega, by simp only [total2, sumN, hwn]; omega, fun i hi => ?_⟩, by simp; omega⟩
    by_cases hik : i = k
    · subst hik; exact hnb
    · exact hgood i (by omega)
  · obtain rfl : k = ws.length := by omega
    have h3 : ¬ ∃ i, i < ws.length ∧ upBad ws i := by rintro ⟨i, hi, hb⟩; exact hgood i hi hb
    refine (inside_ok hl (by omega)).mono ?_
    rintro _ w2 ⟨rfl, rfl⟩
    refine ⟨_, rfl, bsplit_intro (fun hi => ?_) (fun hi => ?_)⟩
    · simp only [Bool.not_eq_true', decide_eq_false_iff_not] at hi
      exact .bad (by unfold upE; rw [if_neg (by omega), if_neg h3, if_pos (by omega)]) (by decide)
    simp only [Bool.not_eq_false', decide_eq_true_eq] at hi
    intro rest
    have er : rest = ((8 * xs.length - sumN ws ws.length : Nat) : Int) := by simp only [rest]; rw [wrap_id (8 * (xs.length : Int)) (by omega), wrap_id _ (by omega)]; omega
    clear_value rest
    subst er
    refine bsplit_dec (fun h => .bad (k := 4) (by unfold upE; rw [if_neg (by omega), if_neg h3, if_neg (by omega), if_pos (by omega)]) (by decide)) (fun h8 => ?_)
    refine (read_ok hb hx hl).mono ?_
    rintro _ w3 ⟨rfl, rfl⟩
    obtain ⟨_, e2⟩ := rdOk (xs := xs) (a := sumN ws ws.length) (n := 8 * xs.length - sumN ws ws.length) (by omega) (by omega)
    refine ⟨_, _, rfl, ?_⟩
    rw [e2]
    refine bsplit_intro (fun h => .bad (k := 4) ?_ (by decide)) (fun h => ?_)
    · unfold upE; rw [if_neg (by omega), if_neg h3, if_neg (by omega), if_neg (by omega), if_pos (by simpa using h)]
    have hE : upE xs ws = 0 := by unfold upE; rw [if_neg (by omega), if_neg h3, if_neg (by omega), if_neg (by omega), if_neg (by simpa using h)]
    have hR : upR xs ws = upV xs ws ws.length := by unfold upR; rw [if_pos hE]
    rw [hE, hR]
    refine ⟨fun oa ol oc at1 x => ((ws.length - x).toNat, fun w5 => ∃ k : Nat, x = k ∧ k ≤ ws.length ∧ at1 = (sumN ws k : Nat) ∧ ol = k ∧ OwnI w5 w3.heap.size Ty_int .i64 oa k oc (upV xs ws k) ∧ Below w3.heap.size w3 w5), ⟨0, rfl, by omega, rfl, rfl, OwnI.nil_ .., .refl _ _⟩, ?_⟩
    rintro _ oa ol oc at1 x w5 ⟨k, rfl, hk, rfl, rfl, ho5, hb5⟩
    refine bsplit_dec (fun hlt => ?_) (fun hge => ?_)
    · have hlt : ol < ws.length := by omega
      obtain ⟨p, rfl, hp⟩ := (ha.below hb5).get hlt
      obtain ⟨n, hn, hn32, hwn⟩ := up_n (hgood ol hlt)
      rw [getD_at hlt] at hn
      have hkm := sumN_mono ws (show ol + 1 ≤ ws.length by omega)
      simp only [sumN, hwn] at hkm
      unfold IntC at hp
      rw [hn] at hp
      refine ⟨p, rfl, ⟨by omega, by omega⟩, _, hp, ?_⟩
      refine (read_ok (hb.below hb5) hx hl).mono ?_
      rintro _ w6 ⟨rfl, rfl⟩
      obtain ⟨_, e3⟩ := rdOk (xs := xs) (a := sumN ws ol) (n := n) (by omega) (by omega)
      refine ⟨_, _, rfl, ?_⟩
      rw [e3]
      refine ho5.app1 sl_Ty_S_int (by omega) (by omega) hb5.size fun a' c' w7 ho hbl _ _ _ => ?_
      rw [wrap_id (((sumN ws ol : Nat) : Int) + n) (by omega), wrap_id ((ol : Int) + 1) (by omega)]
      intro at2
      refine ⟨⟨ol + 1, by omega, by omega, by simp only [at2, sumN, hwn]; omega, rfl, ?_, hbl _ _ hb5 (Nat.le_refl _)⟩, by simp; omega⟩
      rw [upV_succ, hwn]; exact ho
    · obtain rfl : ol = ws.length := by omega
      exact ⟨oa, oc, by rw [upV_length], by rw [upV_length]; exact ho5, hb5⟩

theorem refUnpack_ok (hb : SlR (IntC .u8) 1 w ba xs) (hx : Bytes xs) (hl : xs.length ≤ 140737488355328) (ha : SlR (IntC .i64) 1 w wa ws) :
    Calls Try.prog N_ref01_Unpack #[.slice ba xs.length bc, .slice wa ws.length wc] w (UpOut w (upR xs ws) (upE xs ws)) := by
  apply F_ref01_Unpack_ok
  unfold F_ref01_Unpack
  refine bsplit_dec (fun h => .bad (k := 2) (by unfold upE; rw [if_pos (by omega)]) (by decide)) (fun h256 => ?_)
  refine ⟨fun total x => ((ws.length - x).toNat, fun w1 => w1 = w ∧ ∃ k : Nat, x = k ∧ k ≤ ws.length ∧ total = (sumN ws k : Nat) ∧ ∀ i, i < k → ¬ upBad ws i), ⟨rfl, 0, rfl, by omega, rfl, fun i hi => by omega⟩, ?_⟩
  rintro _ total x w1 ⟨rfl, k, rfl, hk, rfl, hgood⟩
  have hs := sumN_le (ws := ws) (k := k) fun i hi => by obtain ⟨n, _, h1, h2⟩ := up_n (hgood i hi); omega
  refine bsplit_dec (fun hlt => ?_) (fun hge => ?_)
  · have hlt : k < ws.length := by omega
    obtain ⟨p, rfl, hp⟩ := ha.get hlt
    have bad : upBad ws k → UpOut w1 (upR xs ws) (upE xs ws) (.returned (.tuple #[.slice none 0 0, .int .i64 3])) w1 := fun hb => .bad (by unfold upE; rw [if_neg (by omega), if_pos ⟨k, hlt, hb⟩]) (by decide)
    have hbk : upBad ws k ↔ (ws[k] < 0 ∨ 32 < ws[k]) := by unfold upBad; rw [getD_at hlt]
    refine ⟨p, rfl, ⟨by omega, by omega⟩, ws[k], hp, bsplit_dec (fun h => bad (by rw [hbk]; omega)) (fun h1 => ?_)⟩
    refine ⟨p, rfl, ⟨by omega, by omega⟩, ws[k], hp, bsplit_dec (fun h => bad (by rw [hbk]; omega)) (fun h2 => ?_)⟩
    have hnb : ¬ upBad ws k := by rw [hbk]; omega
    obtain ⟨n, hn, hn32, hwn⟩ := up_n hnb
    rw [getD_at hlt] at hn
    refine ⟨p, rfl, ⟨by omega, by omega⟩, ws[k], hp, ?_⟩
    rw [hn, wrap_id (((sumN ws k : Nat) : Int) + n) (by omega), wrap_id ((k : Int) + 1) (by omega)]
    intro total2 i2
    refine ⟨⟨rfl, k + 1, by simp only [i2]; omega, by omega, by simp only [total2, sumN, hwn]; omega, fun i hi => ?_⟩, by simp [i2]; omega⟩
    by_cases hik : i = k
    · subst hik; exact hnb
    · exact hgood i (by omega)
  · obtain rfl : k = ws.length := by omega
    have h3 : ¬ ∃ i, i < ws.length ∧ upBad ws i := by rintro ⟨i, hi, hb⟩; exact hgood i hi hb
    rw [wrap_id (8 * (xs.length : Int)) (by omega), seven_div (by omega)]
    refine bsplit_dec (fun h => .bad (k := 5) (by unfold upE; rw [if_neg (by omega), if_neg h3, if_pos (by omega)]) (by decide)) (fun h5 => ?_)
    refine bsplit_dec (fun h => .bad (k := 4) (by unfold upE; rw [if_neg (by omega), if_neg h3, if_neg (by omega), if_pos (by omega)]) (by decide)) (fun h8 => ?_)
    rw [wrap_id (8 * (xs.length : Int) - (sumN ws ws.length : Nat)) (by omega), show 8 * (xs.length : Int) - (sumN ws ws.length : Nat) = ((8 * xs.length - sumN ws ws.length : Nat) : Int) by omega]
    refine (refRead_ok hb hx hl).mono ?_
    rintro _ w3 ⟨rfl, rfl⟩
    obtain ⟨_, e2⟩ := rdOk (xs := xs) (a := sumN ws ws.length) (n := 8 * xs.length - sumN ws ws.length) (by omega) (by omega)
    refine ⟨_, _, rfl, ?_⟩
    rw [e2]
    refine bsplit_intro (fun h => .bad (k := 4) ?_ (by decide)) (fun h => ?_)
    · unfold upE; rw [if_neg (by omega), if_neg h3, if_neg (by omega), if_neg (by omega), if_pos (by simpa using h)]
    have hE : upE xs ws = 0 := by unfold upE; rw [if_neg (by omega), if_neg h3, if_neg (by omega), if_neg (by omega), if_neg (by simpa using h)]
    have hR : upR xs ws = upV xs ws ws.length := by unfold upR; rw [if_pos hE]
    rw [hE, hR]
    refine ⟨fun oa ol oc at1 x => ((ws.length - x).toNat, fun w5 => ∃ k : Nat, x = k ∧ k ≤ ws.length ∧ at1 = (sumN ws k : Nat) ∧ ol = k ∧ OwnI w5 w3.heap.size Ty_int .i64 oa k oc (upV xs ws k) ∧ Below w3.heap.size w3 w5), ⟨0, rfl, by omega, rfl, rfl, OwnI.nil_ .., .refl _ _⟩, ?_⟩
    rintro _ oa ol oc at1 x w5 ⟨k, rfl, hk, rfl, rfl, ho5, hb5⟩
    refine bsplit_dec (fun hlt => ?_) (fun hge => ?_)
    · have hlt : ol < ws.length := by omega
      obtain ⟨p, rfl, hp⟩ := (ha.below hb5).get hlt
      obtain ⟨n, hn, hn32, hwn⟩ := up_n (hgood ol hlt)
      rw [getD_at hlt] at hn
      have hkm := sumN_mono ws (show ol + 1 ≤ ws.length by omega)
      simp only [sumN, hwn] at hkm
      unfold IntC at hp
      rw [hn] at hp
      refine ⟨p, rfl, ⟨by omega, by omega⟩, _, hp, ?_⟩
      refine (refRead_ok (hb.below hb5) hx hl).mono ?_
      rintro _ w6 ⟨rfl, rfl⟩
      obtain ⟨_, e3⟩ := rdOk (xs := xs) (a := sumN ws ol) (n := n) (by omega) (by omega)
      refine ⟨_, _, rfl, ?_⟩
      rw [e3]
      refine ho5.app1 sl_Ty_S_int (by omega) (by omega) hb5.size fun a' c' w7 ho hbl _ _ _ => ?_
      have hb7 := hbl _ _ hb5 (Nat.le_refl _)
      obtain ⟨p', hp', hpc⟩ := (ha.below hb7).get hlt
      injection hp' with hp'
      subst hp'
      unfold IntC at hpc
      rw [hn] at hpc
      refine ⟨p, rfl, ⟨by omega, by omega⟩, _, hpc, ?_⟩
      rw [wrap_id (((sumN ws ol : Nat) : Int) + n) (by omega), wrap_id ((ol : Int) + 1) (by omega)]
      intro at2 i4
      refine ⟨⟨ol + 1, by simp only [i4]; omega, by omega, by simp only [at2, sumN, hwn]; omega, rfl, ?_, hb7⟩, by simp [i4]; omega⟩
      rw [upV_succ, hwn]; exact ho
    · obtain rfl : ol = ws.length := by omega
      exact ⟨oa, oc, by rw [upV_length], by rw [upV_length]; exact ho5, hb5⟩
end

/-! ## The same -/
theorem same_ok {a b : Option Addr} {c1 c2 : Nat} {xs ys : List Int} {w : World} (ha : SlR (IntC .u8) 1 w a xs) (hb : SlR (IntC .u8) 1 w b ys) (hx : Bytes xs) (hy : Bytes ys) :
    Calls Try.prog N_ref01_Same #[.slice a xs.length c1, .slice b ys.length c2] w fun e w' => e = .returned (.bool (decide (xs = ys))) ∧ w' = w := by
  apply F_ref01_Same_ok
  unfold F_ref01_Same
  refine convS_bytes (e := Ty_uint8) (by kernel_rfl) (by kernel_rfl) (by kernel_rfl) ha ?_
  refine convS_bytes (e := Ty_uint8) (by kernel_rfl) (by kernel_rfl) (by kernel_rfl) hb ?_
  refine ⟨?_, rfl⟩
  rw [str_beq hx hy]
theorem take_eq_step {xs ys : List Int} {k : Nat} (h1 : k < xs.length) (h2 : k < ys.length) (h : xs.take k = ys.take k) (he : xs[k] = ys[k]) : xs.take (k + 1) = ys.take (k + 1) := by
  rw [List.take_succ_eq_append_getElem h1, List.take_succ_eq_append_getElem h2, h, he]
theorem ne_of_getElem {xs ys : List Int} {k : Nat} (h1 : k < xs.length) (h2 : k < ys.length) (he : xs[k] ≠ ys[k]) : xs ≠ ys := by
  rintro rfl; exact he rfl
theorem sameInts_ok {a b : Option Addr} {c1 c2 : Nat} {xs ys : List Int} {w : World} (ha : SlR (IntC .i64) 1 w a xs) (hb : SlR (IntC .i64) 1 w b ys) (hl : xs.length ≤ 9223372036854775807) :
    Calls Try.prog N_ref01_SameInts #[.slice a xs.length c1, .slice b ys.length c2] w fun e w' => e = .returned (.bool (decide (xs = ys))) ∧ Below w.heap.size w w' := by
  apply F_ref01_SameInts_ok
  unfold F_ref01_SameInts
  refine bsplit_intro (fun h => ?_) (fun h => ?_)
  · have : xs ≠ ys := by rintro rfl; simp at h
    exact ⟨by simp [this], .refl _ _⟩
  · have hle : xs.length = ys.length := by simp at h; omega
    refine ⟨fun i => ((xs.length - i).toNat, fun w1 => ∃ k : Nat, i = k ∧ k ≤ xs.length ∧ xs.take k = ys.take k ∧ Below w.heap.size w w1), ⟨0, rfl, by omega, rfl, .refl _ _⟩, ?_⟩
    rintro _ i w1 ⟨k, rfl, hk, htk, hb1⟩
    refine bsplit_dec (fun hlt => ?_) (fun hge => ?_)
    · have hlt : k < xs.length := by omega
      intro w2
      obtain ⟨p, rfl, hp⟩ := (ha.below hb1).get hlt
      obtain ⟨q, rfl, hq⟩ := (hb.below hb1).get (i := k) (by omega)
      refine ⟨p, rfl, ⟨by omega, by omega⟩, _, hp, q, rfl, ⟨by omega, by omega⟩, _, hq, ?_⟩
      refine bsplit_intro (fun hne => ?_) (fun he => ?_)
      · have : xs ≠ ys := ne_of_getElem hlt (by omega) (by simpa using hne)
        exact ⟨by simp [this], hb1.drew⟩
      · intro i1
        have e1 : i1 = (k : Int) + 1 := wrap_id _ (by omega)
        rw [e1]
        exact ⟨⟨k + 1, rfl, by omega, take_eq_step hlt (by omega) htk (by simpa using he), hb1.drew⟩, by simp; omega⟩
    · obtain rfl : k = xs.length := by omega
      have : xs = ys := by rw [List.take_length, List.take_of_length_le (by omega)] at htk; exact htk
      exact ⟨by simp [this], hb1⟩

/-! ## Awake -/
theorem wk_pack : pkL [4, 3] [9, 2] 2 = [148] := by decide +kernel
theorem wk_read : readV [128, 1] 12 4 = 1 := by decide +kernel
theorem wk_good : ∀ i, i < 2 → ¬ pkBad [4, 3] [9, 2] i := by
  intro i hi
  unfold pkBad wN
  rcases (show i = 0 ∨ i = 1 by omega) with rfl | rfl <;> decide
theorem SlR.lit {k : IntKind} (w : World) (t : TypeId) (zs : List Int) {cs : Array Value} (hcs : cs = (zs.map (Value.int k)).toArray) : SlR (IntC k) 1 (w.alloc (.cells cs t)) (some (nb w)) zs := by
  subst hcs
  refine .inr ⟨_, rfl, fun i hi => ?_⟩
  have hB := Blk.new w t (zs.map (Value.int k)).toArray
  show World.cell? _ _ = _
  rw [nb_add, Nat.mul_one]
  exact hB.cell0 i (by simp [hi])
theorem awake_ok (w : World) : Calls Try.prog N_law01_awake #[] w fun e w' => e = .returned (.bool true) ∧ Below w.heap.size w w' := by
  apply F_law01_awake_ok
  unfold F_law01_awake
  intro w1 w2
  have h1 : SlR (IntC .i64) 1 w1 (some (nb w)) [4, 3] := SlR.lit w Ty_int [4, 3] rfl
  have hb1 : Below w.heap.size w w1 := (Below.refl _ _).alloc (Nat.le_refl _) _
  have h2 : SlR (IntC .i64) 1 w2 (some (nb w1)) [9, 2] := SlR.lit w1 Ty_int [9, 2] rfl
  have hb2 : Below w1.heap.size w1 w2 := (Below.refl _ _).alloc (Nat.le_refl _) _
  have hs1 := hb1.size
  clear_value w2
  have hb12 := below_step hb1 (Nat.le_refl _) hb2
  have h1' := h1.below hb2
  clear_value w1
  refine (pack_ok (wc := 2) (vc := 2) h1' h2).mono ?_
  obtain ⟨hE, hR⟩ := pk0 (ws := [4, 3]) (vs := [9, 2]) (by decide) (by simpa using wk_good)
  have hR' : pkR [4, 3] [9, 2] = [148] := by rw [hR]; exact wk_pack
  rw [hE, hR']
  rintro _ w3 ⟨a', c', rfl, ho3, hb3⟩
  have hb13 := below_step hb12 (Nat.le_refl _) hb3
  refine ⟨_, _, _, _, rfl, ?_⟩
  intro w4
  have h4 : SlR (IntC .u8) 1 w4 (some (nb w3)) [128, 1] := SlR.lit w3 Ty_uint8 [128, 1] rfl
  have hb4 : Below w3.heap.size w3 w4 := (Below.refl _ _).alloc (Nat.le_refl _) _
  have ho4 := ho3.below hb4 (Nat.le_refl _)
  clear_value w4
  refine (read_ok (c := 2) (at1 := 12) (n := 4) h4 (by intro i hi; rcases (show i = 0 ∨ i = 1 by simp at hi; omega) with rfl | rfl <;> simp) (by decide)).mono ?_
  rintro _ w5 ⟨rfl, rfl⟩
  obtain ⟨e1, e2⟩ := rdOk (xs := [128, 1]) (a := 12) (n := 4) (by decide) (by decide)
  have e1' : rdE [128, 1] 12 4 = 0 := e1
  have e2' : rdV [128, 1] 12 4 = 1 := by have : rdV [128, 1] 12 4 = readV [128, 1] 12 4 := e2
                                         rw [this, wk_read]
  rw [e1', e2']
  refine ⟨_, _, rfl, ?_⟩
  refine bsplit_intro (fun _ => ?_) (fun h => by simp at h)
  refine bsplit_intro (fun _ => ?_) (fun h => by simp at h)
  refine bsplit_intro (fun _ => ?_) (fun h => by simp at h)
  obtain ⟨b, rfl, hc⟩ := ho4.sl.get (i := 0) (by simp)
  refine ⟨b, rfl, ⟨by omega, by simp⟩, _, hc, ?_⟩
  refine bsplit_intro (fun _ => ?_) (fun h => by simp at h)
  exact ⟨rfl, below_step hb13 (Nat.le_refl _) hb4⟩
end Go.Proofs.Yteoogdpjidbapaa
