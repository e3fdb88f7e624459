import Derived.Test.YtgmniohbnophdaaW38m
import Derived.Test.YtgmniohbnophdaaFxAccessMany
/- CHAPTER 38: AccessMany. -/
set_option maxRecDepth 100000
namespace Go.Proofs.Ytgmniohbnophdaa
open Go.Sx Go.RowKit Go.P38
/-- the j-th of them -/
def atM (f p : Int) (j : Nat) : At := ⟨f + j, preR (f + j) 0 p, 7, 0⟩
def lM (f p : Int) (i : Nat) : List At := (List.range i).map (atM f p)
def acM (f p : Int) (i : Nat) : Ac := ⟨p, 1, 3, lM f p i⟩
section
variable {f p : Int} {i : Nat}
theorem lM_len : (lM f p i).length = i := by simp [lM]
theorem lM_get {j : Nat} (h : j < (lM f p i).length) : (lM f p i)[j] = atM f p j := by simp [lM]
theorem lM_succ : lM f p (i + 1) = lM f p i ++ [atM f p i] := by simp [lM, List.range_succ]
theorem lM_mem {x : At} (h : x ∈ lM f p i) : ∃ j, j < i ∧ x = atM f p j := by
  simp only [lM, List.mem_map, List.mem_range] at h
  obtain ⟨j, hj, rfl⟩ := h
  exact ⟨j, hj, rfl⟩
theorem hasM {n : Nat} (hn : i ≤ n) : hasR ((lM f p n).take i) (f + i) = false := by
  rw [Bool.eq_false_iff]
  intro h
  obtain ⟨x, hx, he⟩ := hasR_iff.1 h
  obtain ⟨j, hj, rfl⟩ := List.mem_take_iff_getElem.1 hx
  rw [lM_get] at he
  have : f + (j : Int) = f + i := he
  omega
theorem checkM (hf : 0 ≤ f ∧ f ≤ 255) (hp : 1 ≤ p ∧ p ≤ 16) (hi : i ≤ 16) : checkR (acM f p i) = 0 := by
  have hl : (acM f p i).l.length = i := lM_len
  rw [checkR, if_neg (by unfold BadR acM; simp; omega), if_neg (by omega), if_pos]
  have key : ∀ (j : Nat) (hj : j < (acM f p i).l.length), GoodAt (acM f p i) j (acM f p i).l[j] := fun j hj => by
    have hg : (acM f p i).l[j] = atM f p j := lM_get hj
    rw [hg]
    have hji : j < i := by omega
    refine ⟨by show 0 ≤ f + (j : Int); omega, by show f + (j : Int) < 65536; omega, Int.le_refl 0, by show (0 : Int) < 1; decide, rfl, by show (0 : Int) ≤ 7; decide, by show (7 : Int) ≤ 2097152; decide, hasM (by omega), ?_⟩
    rcases Nat.eq_zero_or_pos j with h | h
    · exact .inl h
    · refine .inr ?_
      have h1 : j - 1 < (acM f p i).l.length := by omega
      rw [List.getElem?_eq_getElem h1]
      have hg2 : (acM f p i).l[j - 1] = atM f p (j - 1) := lM_get h1
      rw [hg2]
      simp [bef, atM]; omega
  exact fun j => key j.1 j.2
theorem beginM (hf : 0 ≤ f ∧ f ≤ 255) (hp : 1 ≤ p ∧ p ≤ 16) (hi : i < 16) : beginR (acM f p i) (f + i) 7 = (acM f p (i + 1), 0) := by
  have hl : (acM f p i).l.length = i := lM_len
  have hh : hasR (acM f p i).l (f + i) = false := by
    have := hasM (f := f) (p := p) (i := i) (n := i) (Nat.le_refl _)
    rwa [List.take_of_length_le (by rw [lM_len]; exact Nat.le_refl _)] at this
  rw [beginR, if_neg (by simp [checkM hf hp (by omega : i ≤ 16)]), if_neg (by omega), if_neg (by simp [hh]), if_neg (by omega)]
  have hput : putR (acM f p i).l ⟨f + i, preR (f + i) 0 p, 7, 0⟩ = lM f p (i + 1) := by
    rw [putR_at (k := i) (by omega) (fun j hj hji => ?_) (fun h => by omega), lM_succ, List.take_of_length_le (by omega), List.drop_eq_nil_of_le (by omega)]
    · rfl
    · have : (acM f p i).l[j] = atM f p j := lM_get hj
      rw [this]
      simp [bef, atM]; omega
  have e : (acM f p i).pre = p := rfl
  rw [e, hput]; rfl
theorem nowM0 : nowL (lM f p i) 6 = [] := by
  unfold nowL
  cases h : lM f p i with
  | nil => rfl
  | cons x xs =>
    obtain ⟨j, _, rfl⟩ := lM_mem (x := x) (by rw [h]; simp)
    simp [List.takeWhile, atM]
theorem nowM1 : nowL (lM f p i) 7 = lM f p i ∧ restL (lM f p i) 7 = [] := by
  have := while_at (p := fun x : At => decide (x.at_ ≤ 7)) (l := lM f p i) (k := i) (by rw [lM_len]; exact Nat.le_refl _) (fun j hj _ => by rw [lM_get]; rfl) (fun h => by rw [lM_len] at h; omega)
  rw [List.take_of_length_le (by rw [lM_len]; exact Nat.le_refl _), List.drop_eq_nil_of_le (by rw [lM_len]; exact Nat.le_refl _)] at this
  exact this
theorem tickM0 (hf : 0 ≤ f ∧ f ≤ 255) (hp : 1 ≤ p ∧ p ≤ 16) (hi : i ≤ 16) : (tickR (acM f p i) 6).1.l.length = i ∧ (tickR (acM f p i) 6).2 = ([], [], 0) := by
  have h0 : nowL (acM f p i).l 6 = [] := nowM0
  have h1 := now_rest (acM f p i).l 6
  rw [h0, List.nil_append] at h1
  rw [tickR, if_neg (by simp [checkM hf hp hi]), if_neg (by omega), h0]
  have e : foldR (acM f p i) 6 0 = (restL (acM f p i).l 6, [], []) := rfl
  rw [List.length_nil, e, h1]
  exact ⟨lM_len, rfl⟩
theorem preM_ne (hf : 0 ≤ f ∧ f ≤ 255) (hp : 1 ≤ p ∧ p ≤ 16) {n j k : Nat} (hn : (n : Int) ≤ p) (hj : j < n) (hk : k < n) (hjk : j ≠ k) : (atM f p j).pre ≠ (atM f p k).pre := by
  show preR (f + j) 0 p ≠ preR (f + k) 0 p
  rw [pre0 (by omega) (by omega) (by omega), pre0 (by omega) (by omega) (by omega)]
  have key : ∀ j k : Nat, j < k → k < n → (f + k) % p ≠ (f + j) % p := fun j k hjk hk h => by
    have h2 := Int.emod_eq_emod_iff_emod_sub_eq_zero.1 h
    rw [show f + (k : Int) - (f + j) = (k : Int) - j by omega, Int.emod_eq_of_lt (by omega) (by omega)] at h2
    omega
  rcases Nat.lt_or_ge j k with h | h
  · exact fun e => key j k h hk e.symm
  · exact fun e => key k j (by omega) hj e
theorem foldM (hf : 0 ≤ f ∧ f ≤ 255) (hp : 1 ≤ p ∧ p ≤ 16) (hn : (i : Int) ≤ p) : ∀ k, k ≤ i → ∃ g : List Int, g.length = k ∧ foldR (acM f p i) 7 k = ([], g, [])
  | 0, _ => ⟨[], rfl, by
    have h : restL (acM f p i).l 7 = [] := nowM1.2
    show (restL (acM f p i).l 7, ([] : List Int), ([] : List Int)) = _
    rw [h]⟩
  | k + 1, hk => by
    obtain ⟨g, hg, ih⟩ := foldM hf hp hn k (by omega)
    have hnow : nowL (acM f p i).l 7 = lM f p i := nowM1.1
    have hlt : k < (nowL (acM f p i).l 7).length := by rw [hnow, lM_len]; omega
    have hlt2 : k < (lM f p i).length := by rw [lM_len]; omega
    have hone : (lM f p i).countP (fun y => decide (y.pre = (lM f p i)[k].pre)) = 1 := (alone_iff hlt2).1 fun j hj hjk => by
      rw [lM_get, lM_get]
      rw [lM_len] at hj
      exact preM_ne hf hp hn hj (by omega) hjk
    rw [foldR_succ hlt, ih]
    simp only [hnow]
    refine ⟨g ++ [(lM f p i)[k].id], by simp [hg], ?_⟩
    unfold stepR
    rw [if_pos hone]
theorem tickM1 (hf : 0 ≤ f ∧ f ≤ 255) (hp : 1 ≤ p ∧ p ≤ 16) (hn : (i : Int) ≤ p) : (tickR (acM f p i) 7).1.l.length = 0 ∧ (tickR (acM f p i) 7).2.1.length = i ∧ (tickR (acM f p i) 7).2.2 = ([], 0) := by
  obtain ⟨g, hg, e⟩ := foldM hf hp hn i (Nat.le_refl _)
  have hnow : nowL (acM f p i).l 7 = lM f p i := nowM1.1
  rw [tickR, if_neg (by simp [checkM hf hp (by omega : i ≤ 16)]), if_neg (by omega), hnow, lM_len, e]
  exact ⟨rfl, hg, rfl⟩
end
section
variable {w : World} {f0 pr mn : Int}
theorem law38_AccessMany_ct (hf : 0 ≤ f0 ∧ f0 ≤ 255) (hpr : 0 ≤ pr ∧ pr ≤ 255) (hmn : 0 ≤ mn ∧ mn ≤ 255) :
    Calls Try.prog N_law38_AccessMany #[.int .u8 f0, .int .u8 pr, .int .u8 mn] w fun e w' => e = .returned (.bool true) ∧ Below w.heap.size w w' := by
  apply F_law38_AccessMany_ok
  unfold F_law38_AccessMany
  have H := St.nil w
  refine kW_i64 (by omega) ?_
  refine kTmod (by omega) ?_
  have e1 := emod_small (x := pr) (m := 16) (by omega)
  refine kW_i64 (by omega) ?_
  generalize hp : (1 : Int) + pr % 16 = p
  have hp2 : 1 ≤ p ∧ p ≤ 16 := by omega
  refine kW_i64 (by omega) ?_
  refine ⟨by omega, ?_⟩
  refine kTmod (by omega) ?_
  have e2 := emod_small (x := mn) (m := p) (by omega)
  refine kW_i64 (by omega) ?_
  obtain ⟨n, hn⟩ : ∃ n : Nat, (1 : Int) + mn % p = n := ⟨(1 + mn % p).toNat, by omega⟩
  rw [hn]
  have hnp : (n : Int) ≤ p := by omega
  have hn16 : n ≤ 16 := by omega
  refine H.alloc ?_; clear H; intro b w1 H1
  refine H1.store (i := 0) rfl (by rfl) (by rfl) ?_; clear H1; intro w2 H2
  refine ⟨fun i => ((n - i).toNat, fun w3 => ∃ (k : Nat) (q : Option Addr) (d : Nat), i = k ∧ k ≤ n ∧ k ≤ d ∧ FreshR w w3 [] ∧ St (fun _ => False) [] w w3 [acBlk b (acM f0 p k) q d] (fun w => SlR (CE encAt) 4 w q (lM f0 p k))), ⟨0, none, 0, rfl, by omega, by omega, H2.fin, H2.imp fun _ _ => .inl rfl⟩, ?_⟩
  clear H2
  rintro _ i w3 ⟨k, q, d, rfl, hk, hkd, -, H3⟩
  have hlk : (acM f0 p k).l.length = k := lM_len
  refine bsplit_dec (fun c9 => ?_) (fun c9 => ?_)
  · refine ⟨_, _, _, _, _, _, H3.cells (i := 0) rfl, ?_⟩
    refine kW_i64 (by omega) ?_
    refine kW_i64 (by omega) ?_
    have hbm := beginM (f := f0) (p := p) (i := k) hf hp2 (by omega)
    obtain ⟨A1, hA1, k1⟩ := St.callH H3
    refine (access_Begin_ct (a := acM f0 p k) (id := f0 + k) (tick := 7) hA1 (by omega) (by omega)).mono ?_
    rintro _ w4 ⟨p4, c4, rfl, hc4, K4⟩; have H4 := k1 K4; clear H3 k1 K4 hA1
    rw [hbm] at hc4 H4 ⊢
    refine ⟨_, _, _, _, _, _, _, rfl, ?_⟩
    refine H4.alloc ?_; clear H4; intro b1 w5 H5
    refine H5.store (i := 1) rfl (by rfl) (by rfl) ?_; clear H5; intro w6 H6
    refine bsplit_nd (fun c => absurd rfl c) (fun _ => ?_)
    refine ⟨_, _, _, _, _, _, H6.cells (i := 1) rfl, ?_⟩
    refine H6.store (i := 0) rfl (by rfl) (by rfl) ?_; clear H6; intro w7 H7
    refine kW_i64 (by omega) ?_
    have hlk1 : (acM f0 p (k + 1)).l.length = k + 1 := lM_len
    refine ⟨⟨k + 1, p4, c4, by omega, by omega, by rw [← hlk1]; exact hc4, (H7.imp fun _ _ => trivial).fin, (H7.imp fun _ h => h.1).dropLast (R := [_])⟩, by dsimp only; omega⟩
  · obtain rfl : k = n := by omega
    obtain ⟨t1, t2⟩ := tickM0 (f := f0) (p := p) (i := k) hf hp2 hn16
    obtain ⟨t3, t4, t5⟩ := tickM1 (f := f0) (p := p) (i := k) hf hp2 hnp
    have u1 := congrArg (fun x => x.1) t2; have u2 := congrArg (fun x => x.2.1) t2; have u3 := congrArg (fun x => x.2.2) t2
    have u4 := congrArg (fun x => x.1) t5; have u5 := congrArg (fun x => x.2) t5
    dsimp only at u1 u2 u3 u4 u5
    refine ⟨_, _, _, _, _, _, H3.cells (i := 0) rfl, ?_⟩
    obtain ⟨A1, hA1, k1⟩ := St.callH H3
    refine (access_Tick_ct (a := acM f0 p k) (tick := 6) hA1 (by omega) (by omega)).mono ?_
    rintro _ w8 ⟨p8, c8, g8, gc8, d8, dc8, rfl, hc8, K8⟩; have H8 := k1 K8; clear H3 k1 K8 hA1
    refine ⟨_, _, _, _, _, _, _, _, _, _, _, _, _, rfl, ?_⟩
    refine H8.alloc ?_; clear H8; intro b2 w9 H9
    refine H9.store (i := 1) rfl (by rfl) (by rfl) ?_; clear H9; intro w10 H10
    refine ⟨_, _, _, _, _, _, H10.cells (i := 0) rfl, ?_⟩
    obtain ⟨A2, hA2, k2⟩ := St.callH H10
    refine (access_Tick_ct (a := acM f0 p k) (tick := 7) (hA2.mono fun _ h => h.2) (by omega) (by omega)).mono ?_
    rintro _ w11 ⟨p11, c11, g11, gc11, d11, dc11, rfl, hc11, K11⟩; have H11 := k2 K11; clear H10 k2 K11 hA2
    refine ⟨_, _, _, _, _, _, _, _, _, _, _, _, _, rfl, ?_⟩
    refine H11.alloc ?_; clear H11; intro b3 w12 H12
    refine H12.store (i := 2) rfl (by rfl) (by rfl) ?_; clear H12; intro w13 H13
    refine bsplit_dec (fun _ => ?_) (fun c => absurd u3 c)
    refine bsplit_dec (fun _ => ?_) (fun c => absurd u5 c)
    refine bsplit_dec (fun _ => ?_) (fun c => absurd (by rw [u1]; rfl) c)
    refine bsplit_dec (fun _ => ?_) (fun c => absurd (by rw [u2]; rfl) c)
    refine H13.ldS (i := 1) rfl rfl ?_
    refine bsplit_dec (fun _ => ?_) (fun c => absurd (by rw [t1]) c)
    refine bsplit_dec (fun _ => ?_) (fun c => absurd (by rw [t4]) c)
    refine bsplit_dec (fun _ => ?_) (fun c => absurd (by rw [u4]; rfl) c)
    refine H13.ldS (i := 2) rfl rfl ?_
    refine bsplit_dec (fun _ => ?_) (fun c => absurd (by rw [t3]; rfl) c)
    refine law38_awake_ct.mono ?_
    rintro _ w14 ⟨rfl, hb14⟩; have H14 := H13.pass hb14; clear H13
    exact ⟨_, rfl, rfl, H14.below⟩
end
end Go.Proofs.Ytgmniohbnophdaa
