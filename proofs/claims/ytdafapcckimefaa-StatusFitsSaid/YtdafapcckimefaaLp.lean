import Derived.Test.YtdafapcckimefaaForms
import Derived.Test.YtdafapcckimefaaTys
import Derived.Test.YtdafapcckimefaaEl2
import Derived.Test.YtdafapcckimefaaBt
/- Numbers of some bytes: put behind bytes, got out of them. -/
namespace Go.Sx
open Go.RowKit
/-- the bytes of a number, the greatest first -/
def putN : Nat → Int → List Int
  | 0, _ => []
  | n + 1, v => v / 2 ^ (8 * n) % 256 :: putN n v
theorem putN_len (v : Int) : ∀ n, (putN n v).length = n
  | 0 => rfl
  | n + 1 => by simp [putN, putN_len v n]
theorem bytes_putN (v : Int) : ∀ n, Bytes (putN n v)
  | 0 => fun i hi => by simp [putN] at hi
  | n + 1 => fun i hi => by
    cases i with
    | zero => simp only [putN, List.getElem_cons_zero]; omega
    | succ i => simp only [putN, List.getElem_cons_succ]; exact bytes_putN v n i (by simpa [putN] using hi)
/-- the number of some bytes -/
def getN (l : List Int) : Int := l.foldl (fun v x => 256 * v + x) 0
theorem getN_snoc (l : List Int) (x : Int) : getN (l ++ [x]) = 256 * getN l + x := by simp [getN, List.foldl_append]
theorem getN_range {l : List Int} (h : Bytes l) : 0 ≤ getN l ∧ getN l < 256 ^ l.length := by
  have key : ∀ n (l : List Int), l.length = n → Bytes l → 0 ≤ getN l ∧ getN l < 256 ^ l.length := by
    intro n
    induction n with
    | zero =>
      intro l hl _
      obtain rfl := List.eq_nil_of_length_eq_zero hl
      simp [getN]
    | succ n ih =>
      intro l hl hb
      rcases List.eq_nil_or_concat l with rfl | ⟨l', x, rfl⟩
      · simp at hl
      · rw [List.concat_eq_append] at hl hb ⊢
        have h1 := ih l' (by simpa using hl) fun i hi => by
          have := hb i (by simp; omega)
          rwa [List.getElem_append_left hi] at this
        have h2 : 0 ≤ x ∧ x < 256 := by
          have := hb l'.length (by simp)
          simpa using this
        rw [getN_snoc, List.length_append]
        simp only [List.length_cons, List.length_nil, Nat.zero_add, Int.pow_succ]
        omega
  exact key _ l rfl h
theorem pow256_le {n : Nat} (h : n ≤ 7) : (256 : Int) ^ n ≤ 72057594037927936 := by
  have : (256 : Nat) ^ n ≤ 256 ^ 7 := Nat.pow_le_pow_right (by decide) h
  have e : (256 : Int) ^ n = ((256 ^ n : Nat) : Int) := by simp
  rw [e]; omega
end Go.Sx
namespace Go.Proofs.Ytdafapcckimefaa
open Go.Sx Go.RowKit
section
variable {a : Option Addr} {c : Nat} {ys : List Int} {w : World} {A : Nat → Prop} {P : World → Prop} {v : Int}
theorem ref01_Put_ct (hP : Held A w P) (hr : (Res.ints Ty_uint8 .u8 a c ys).ok w) (hn : ∀ b, (Res.ints Ty_uint8 .u8 a c ys).at = some b → ¬ A b) (n : Nat) (hn7 : n ≤ 7) (hl : ys.length ≤ 1000000) :
    Calls Try.prog N_ref01_Put #[(.slice a ys.length c), (.int .i64 n), (.int .i64 v)] w fun e w' => ∃ ra rc, e = .returned (.slice ra (ys ++ putN n v).length rc) ∧ St A (Res.ints Ty_uint8 .u8 a c ys).at.toList w w' [.ints Ty_uint8 .u8 ra rc (ys ++ putN n v)] P := by
  apply F_ref01_Put_ok
  unfold F_ref01_Put
  have H := St.startM hP hr hn
  obtain ⟨zs0, hzs0⟩ : ∃ zs0, zs0 = ys ++ putN n v := ⟨_, rfl⟩
  have hlen : zs0.length = ys.length + n := by rw [hzs0]; simp [putN_len]
  rw [← hzs0]
  refine kW_i64 (by omega) ?_ -- bytes - (1 : Int)
  refine ⟨fun b_a b_l b_c i => ((i + 1).toNat, fun w1 => ∃ (k : Nat) (zs : List Int), i = (k : Int) - 1 ∧ k ≤ n ∧ b_l = zs.length ∧ zs0 = zs ++ putN k v ∧ St A (Res.ints Ty_uint8 .u8 a c ys).at.toList w w1 [.ints Ty_uint8 .u8 b_a b_c zs] P), ⟨n, ys, by omega, Nat.le_refl _, rfl, hzs0, H⟩, ?_⟩ --! I b_a b_l b_c (bytes - (1 : Int))
  clear H
  rintro _ b_a1 b_l1 b_c1 i w1 ⟨k, zs, rfl, hk, rfl, hI, H1⟩
  refine bsplit_dec (fun cc => ?_) (fun cc => ?_) --  (decide (i ≥ (0 : Int)))
  · obtain ⟨m, rfl⟩ : ∃ m, k = m + 1 := ⟨k - 1, by omega⟩
    have em : ((m + 1 : Nat) : Int) - 1 = m := by omega
    rw [em]
    refine kW_i64 (by omega) ?_ -- (8 : Int) * i
    refine kW_u64 (by omega) ?_ -- ((8 : Int) * i)
    refine ⟨by omega, ?_⟩
    have e8 : (min ((8 : Int) * m).toNat (IntKind.bits .i64)) = 8 * m := by
      show min _ 64 = _
      omega
    rw [e8]
    refine kFdiv ?_
    refine kWu8 ?_
    refine H1.alloc ?_; clear H1; intro b w2 H2
    have hzl := congrArg List.length hI
    simp only [List.length_append, putN_len, hlen] at hzl
    refine H2.appIB (i := 0) (j := 1) rfl [v / 2 ^ (8 * m) % 256] rfl sl_Ty_S_uint8 rfl (by simp; omega) (by simp; omega) ?_; intro x_a x_c w3 H3 --! append (.slice b_a1 b_l1 b_c1) (.slice (some ⟨b, 0, none⟩) 1 1)
    refine kW_i64 (by omega) ?_ -- i - (1 : Int)
    refine ⟨⟨m, _, rfl, by omega, rfl, by rw [hI]; simp [putN], H3.dropLast⟩, by dsimp only; omega⟩ --! I x_a x_l x_c (i - (1 : Int))
  · obtain rfl : k = 0 := by omega
    have : zs0 = zs := by rw [hI]; simp [putN]
    subst this
    exact ⟨_, _, rfl, H1⟩ --! (.slice b_a1 b_l1 b_c1)
end
section
variable {A0 : Nat → Prop} {M : List Nat} {w0 w : World} {R : List Res} {P : World → Prop} {i : Nat} {a : Option Addr} {c : Nat} {ys : List Int} {v : Int}
theorem dPut (H : St A0 M w0 w R P) (hi : R[i]? = some (.ints Ty_uint8 .u8 a c ys)) (n : Nat) (hn7 : n ≤ 7) (hl : ys.length ≤ 1000000) {K : Option Addr → Nat → Nat → World → Prop}
    (h : ∀ ra rc w', Fr (Res.ints Ty_uint8 .u8 a c ys).at.toList w w' → St A0 M w0 w' (R.set i (.ints Ty_uint8 .u8 ra rc (ys ++ putN n v))) P → K ra (ys ++ putN n v).length rc w') :
    Calls Try.prog N_ref01_Put #[(.slice a ys.length c), (.int .i64 n), (.int .i64 v)] w fun e w' => ∃ (ra : Option Addr) (rl rc : Nat), e = .returned (.slice ra rl rc) ∧ K ra rl rc w' := by
  obtain ⟨A, hA, hn', hr, hc⟩ := H.callM hi
  refine (ref01_Put_ct hA hr hn' n hn7 hl).mono ?_
  rintro _ w2 ⟨ra, rc, rfl, S⟩
  have := hc S
  rw [List.append_nil] at this
  exact ⟨_, _, _, rfl, h _ _ w2 S.fr (this.imp fun _ h => h.2)⟩
theorem ref01_Get_ct {bs : List Int} {w : World} (hs : SlR (IntC .u8) 1 w a bs) (hb : Bytes bs) (hl : bs.length ≤ 140737488355328) (j n : Nat) (hn : n ≤ 7) (hjn : j + n ≤ bs.length) :
    Calls Try.prog N_ref01_Get #[(.slice a bs.length c), (.int .i64 j), (.int .i64 n)] w fun e w' => e = .returned (.int .i64 (getN ((bs.drop j).take n))) ∧ Below w.heap.size w w' := by
  apply F_ref01_Get_ok
  unfold F_ref01_Get
  have H := St.nil w
  refine ⟨fun v i => ((n - i).toNat, fun w1 => ∃ k : Nat, i = k ∧ k ≤ n ∧ v = getN ((bs.drop j).take k) ∧ FreshR w w1 []), ⟨0, rfl, Nat.zero_le _, by simp [getN], H⟩, ?_⟩ --! I (0 : Int) (0 : Int)
  clear H
  rintro _ v i w1 ⟨k, rfl, hk, rfl, H1⟩
  refine bsplit_dec (fun cc => ?_) (fun cc => ?_) --  (decide (i < bytes))
  · have hlt : j + k < bs.length := by omega
    have hr := getN_range (l := (bs.drop j).take k) fun i hi => by
      simp only [List.getElem_take, List.getElem_drop]
      exact hb _ _
    have hp := pow256_le (n := ((bs.drop j).take k).length) (by simp; omega)
    have hx := hb (j + k) hlt
    have es : (bs.drop j).take (k + 1) = (bs.drop j).take k ++ [bs[j + k]] := by
      rw [List.take_add_one, List.getElem?_drop, List.getElem?_eq_getElem hlt]; rfl
    have hr2 := getN_range (l := (bs.drop j).take (k + 1)) fun i hi => by
      simp only [List.getElem_take, List.getElem_drop]
      exact hb _ _
    have hp2 := pow256_le (n := ((bs.drop j).take (k + 1)).length) (by simp; omega)
    rw [es, getN_snoc] at hr2
    rw [← es] at hr2
    refine kW_i64 (by omega) ?_ -- (256 : Int) * v
    refine kW_i64 (by omega) ?_ -- at1 + i
    refine ixE (hs.below H1.below) (j + k) (by omega) hlt fun b x hxk hb1 => ?_
    obtain rfl : bs[j + k] = x := by rw [List.getElem?_eq_getElem hlt] at hxk; injection hxk
    refine ⟨_, hb1, ?_⟩
    refine kW_i64 (by omega) ?_ -- x2
    refine kW_i64 (by omega) ?_ -- ((256 : Int) * v) + x2
    refine kW_i64 (by omega) ?_ -- i + (1 : Int)
    exact ⟨⟨k + 1, by omega, by omega, by rw [es, getN_snoc], H1⟩, by dsimp only; omega⟩ --! I (((256 : Int) * v) + x2) (i + (1 : Int))
  · obtain rfl : k = n := by omega
    exact ⟨rfl, H1.below⟩ --! (.int .i64 v)
end
end Go.Proofs.Ytdafapcckimefaa
