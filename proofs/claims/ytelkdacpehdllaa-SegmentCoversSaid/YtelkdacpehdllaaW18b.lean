import Derived.Test.YtelkdacpehdllaaW18a
namespace Go.Proofs.Ytelkdacpehdllaa
open Go.Sx Go.RowKit

/-- a byte of a slice that is read -/
theorem ix_u8 {w : World} {a : Option Addr} {xs : List Int} (hs : SlR (IntC .u8) 1 w a xs) (i : Nat) {j : Int} (hj : j = i) (hi : i < xs.length) {F : Addr → Prop}
    (h : ∀ b, (∀ G : Int → Prop, G (xs.getD i 0) → kLd w (b.add (j.toNat * 1)) .u8 G) → F b) : kIx a xs.length j F := by
  subst hj
  obtain ⟨b, rfl, hb⟩ := hs.get hi
  exact ⟨b, rfl, ⟨by omega, by omega⟩, h b fun G hG => ⟨_, by rw [Int.toNat_natCast]; exact hb, by rwa [getD_at hi] at hG⟩⟩
theorem bytes_getD {bs : List Int} (hb : Bytes bs) (i : Nat) : 0 ≤ bs.getD i 0 ∧ bs.getD i 0 < 256 := by
  rcases Nat.lt_or_ge i bs.length with h | h
  · rw [getD_at h]; exact hb _ h
  · simp [List.getD, List.getElem?_eq_none h]
theorem clone_bytes {s_a : Option Addr} {xs : List Int} {s_c : Nat} {w : World} (hs : SlR (IntC .u8) 1 w s_a xs) (hl : xs.length ≤ 140737488355328) :
    Calls Try.prog N_slices_Clone_Sbyte_byte #[(.slice s_a xs.length s_c)] w fun e w' => ∃ a c, e = .returned (.slice a xs.length c) ∧ FreshR w w' [.ints Ty_uint8 .u8 a c xs] := by
  apply F_slices_Clone_Sbyte_byte_ok
  unfold F_slices_Clone_Sbyte_byte
  have H := St.nil w
  cases s_a with
  | none =>
    obtain rfl : xs = [] := by
      rcases hs with h | ⟨b, hb, _⟩
      · exact h
      · cases hb
    exact ⟨none, 0, rfl, H.nilI Ty_uint8 .u8⟩
  | some p =>
    refine bsplit_intro (fun h => by cases h) (fun _ => ?_)
    refine H.alloc ?_; clear H; intro b w1 H1
    have H1 := H1.litI (i := 0) (k := .u8) [] rfl (by decide)
    refine H1.appI (i := 0) rfl sl_Ty_S_uint8 (hs.below H1.below) (by simp; omega) (by simp; omega) ?_; intro x_a x_c w2 H2 --! append (.slice (some ⟨b, 0, none⟩) 0 0) (.slice s_a s_l s_c)
    exact ⟨x_a, x_c, rfl, H2⟩ --! (.slice x_a x_l x_c)

/-- the bytes of a number, the upper first -/
def putB : Nat → Int → List Int
  | 0, _ => []
  | n + 1, v => (v / 2 ^ (8 * n)) % 256 :: putB n v
theorem putB_length (n : Nat) (v : Int) : (putB n v).length = n := by induction n <;> simp [putB, *]
theorem put_ok {b_a : Option Addr} {b_c : Nat} {bytes : Nat} {v : Int} {w : World} {ys : List Int} {A : Nat → Prop} {P : World → Prop} (hP : Held A w P) (hb : (Res.ints Ty_uint8 .u8 b_a b_c ys).ok w)
    (hA : ∀ b, (Res.ints Ty_uint8 .u8 b_a b_c ys).at = some b → ¬ A b) (hn : bytes ≤ 7) (hl : ys.length ≤ 140737488355000) :
    Calls Try.prog N_ref01_Put #[(.slice b_a ys.length b_c), (.int .i64 (bytes : Int)), (.int .i64 v)] w fun e w' => ∃ a c, e = .returned (.slice a (ys ++ putB bytes v).length c) ∧
      St A (Res.ints Ty_uint8 .u8 b_a b_c ys).at.toList w w' [.ints Ty_uint8 .u8 a c (ys ++ putB bytes v)] P := by
  apply F_ref01_Put_ok
  unfold F_ref01_Put
  have H := St.startM hP hb hA
  refine kW_i64 (by omega) ?_ -- bytes - (1 : Int)
  refine ⟨fun b_a1 b_l1 b_c1 i => ((i + 1).toNat, fun w1 => ∃ (k : Nat) (zs : List Int), k ≤ bytes ∧ i = (k : Int) - 1 ∧ zs ++ putB k v = ys ++ putB bytes v ∧ b_l1 = zs.length ∧ zs.length + k = ys.length + bytes ∧ St A (Res.ints Ty_uint8 .u8 b_a b_c ys).at.toList w w1 [.ints Ty_uint8 .u8 b_a1 b_c1 zs] P), ⟨bytes, ys, by omega, rfl, rfl, rfl, rfl, H⟩, ?_⟩ --! I b_a b_l b_c (bytes - (1 : Int))
  clear H
  rintro _ b_a1 b_l1 b_c1 i w1 ⟨k, zs, hk, rfl, hz, rfl, hzl, H1⟩
  refine bsplit_dec (fun c => ?_) (fun c => ?_) --  (decide (i ≥ (0 : Int)))
  · obtain ⟨m, rfl⟩ : ∃ m, k = m + 1 := ⟨k - 1, by omega⟩
    refine kW_i64 (by omega) ?_ -- (8 : Int) * i
    refine kW_u64 (by omega) ?_ -- ((8 : Int) * i)
    refine ⟨by omega, ?_⟩
    have e1 : min (8 * (((m + 1 : Nat) : Int) - 1)).toNat (IntKind.bits .i64) = 8 * m := by show min _ 64 = _; omega
    rw [e1]
    refine kFdiv ?_
    refine kWu8 ?_
    refine H1.alloc ?_; clear H1; intro b w2 H2
    refine H2.appIB (i := 0) (j := 1) rfl [v / 2 ^ (8 * m) % 256] rfl sl_Ty_S_uint8 rfl (by simp; omega) (by simp; omega) ?_; intro x_a x_c w3 H3 --! append (.slice b_a1 b_l1 b_c1) (.slice (some ⟨b, 0, none⟩) 1 1)
    refine kW_i64 (by omega) ?_ -- i - (1 : Int)
    refine ⟨⟨m, zs ++ [v / 2 ^ (8 * m) % 256], by omega, by omega, by rw [← hz]; simp [putB], rfl, by simp; omega, ?_⟩, by dsimp only; omega⟩ --! I x_a x_l x_c (i - (1 : Int))
    exact H3.dropLast
  · obtain rfl : k = 0 := by omega
    have hz : zs = ys ++ putB bytes v := by simpa [putB] using hz
    subst hz
    exact ⟨b_a1, b_c1, rfl, H1⟩ --! (.slice b_a1 b_l1 b_c1)

/-- the number in some bytes -/
def getN (bs : List Int) (at_ : Nat) : Nat → Int
  | 0 => 0
  | n + 1 => 256 * getN bs at_ n + bs.getD (at_ + n) 0
theorem getN_range {bs : List Int} (hb : Bytes bs) (at_ : Nat) : ∀ n, 0 ≤ getN bs at_ n ∧ getN bs at_ n < 256 ^ n
  | 0 => by simp [getN]
  | n + 1 => by
    have ih := getN_range hb at_ n
    have hd : 0 ≤ bs.getD (at_ + n) 0 ∧ bs.getD (at_ + n) 0 < 256 := by
      rcases Nat.lt_or_ge (at_ + n) bs.length with h | h
      · rw [getD_at h]; exact hb _ h
      · simp [List.getD, List.getElem?_eq_none h]
    rw [Int.pow_succ]
    simp only [getN]
    omega
theorem get_ok {b_a : Option Addr} {b_c : Nat} {bs : List Int} {at1 bytes : Nat} {w : World} (hs : SlR (IntC .u8) 1 w b_a bs) (hB : Bytes bs) (hl : at1 + bytes ≤ bs.length) (hn : bytes ≤ 7) (hat : at1 ≤ 1000000) :
    Calls Try.prog N_ref01_Get #[(.slice b_a bs.length b_c), (.int .i64 (at1 : Int)), (.int .i64 (bytes : Int))] w fun e w' => e = .returned (.int .i64 (getN bs at1 bytes)) ∧ Below w.heap.size w w' := by
  apply F_ref01_Get_ok
  unfold F_ref01_Get
  have H := St.nil w
  refine ⟨fun v i => ((bytes - i).toNat, fun w1 => ∃ k : Nat, k ≤ bytes ∧ i = k ∧ v = getN bs at1 k ∧ FreshR w w1 []), ⟨0, by omega, rfl, rfl, H⟩, ?_⟩ --! I (0 : Int) (0 : Int)
  clear H
  rintro _ v i w1 ⟨k, hk, rfl, rfl, H1⟩
  have hr := getN_range hB at1 k
  have hp : (256 : Int) ^ k ≤ 256 ^ 7 := by
    have : (256 : Nat) ^ k ≤ 256 ^ 7 := Nat.pow_le_pow_right (by decide) (by omega)
    have e : (256 : Int) ^ k = ((256 ^ k : Nat) : Int) := by simp
    rw [e]; omega
  refine bsplit_dec (fun c => ?_) (fun c => ?_) --  (decide (i < bytes))
  · have hk2 : k ≤ 6 := by omega
    have hp : (256 : Int) ^ k ≤ 256 ^ 6 := by
      have : (256 : Nat) ^ k ≤ 256 ^ 6 := Nat.pow_le_pow_right (by decide) hk2
      have e : (256 : Int) ^ k = ((256 ^ k : Nat) : Int) := by simp
      rw [e]; omega
    have hx := bytes_getD hB (at1 + k)
    refine kW_i64 (by omega) ?_ -- (256 : Int) * v
    refine kW_i64 (by omega) ?_ -- at1 + i
    refine ix_u8 (hs.below H1.below) (at1 + k) (by omega) (by omega) fun b hb => ?_
    refine hb _ ?_
    refine kW_i64 (by omega) ?_ -- x2
    refine kW_i64 (by omega) ?_ -- ((256 : Int) * v) + x2
    refine kW_i64 (by omega) ?_ -- i + (1 : Int)
    exact ⟨⟨k + 1, by omega, by omega, rfl, H1⟩, by dsimp only; omega⟩ --! I (((256 : Int) * v) + x2) (i + (1 : Int))
  · obtain rfl : k = bytes := by omega
    exact ⟨rfl, H1.below⟩ --! (.int .i64 v)

theorem same_bytes {a b : Option Addr} {c1 c2 : Nat} {xs ys : List Int} {w : World} (ha : SlR (IntC .u8) 1 w a xs) (hb : SlR (IntC .u8) 1 w b ys) (hx : Bytes xs) (hy : Bytes ys) :
    Calls Try.prog N_ref01_Same #[.slice a xs.length c1, .slice b ys.length c2] w fun e w' => e = .returned (.bool (decide (xs = ys))) ∧ Below w.heap.size w w' := by
  apply F_ref01_Same_ok
  unfold F_ref01_Same
  refine convS_bytes (e := Ty_uint8) (by kernel_rfl) (by kernel_rfl) (by kernel_rfl) ha ?_
  refine convS_bytes (e := Ty_uint8) (by kernel_rfl) (by kernel_rfl) (by kernel_rfl) hb ?_
  refine ⟨?_, .refl _ _⟩
  rw [str_beq hx hy]
end Go.Proofs.Ytelkdacpehdllaa
