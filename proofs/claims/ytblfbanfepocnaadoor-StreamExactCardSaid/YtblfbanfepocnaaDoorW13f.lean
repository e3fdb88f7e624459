import Derived.Test.YtblfbanfepocnaaDoorW13e
import Derived.Test.YtblfbanfepocnaaDoorCmSame
namespace Go.Proofs.YtblfbanfepocnaaDoor
open Go.Sx Go.RowKit

theorem made_zero (n : Nat) : madeCells #[Value.int .u8 0] n = ((List.replicate n (0 : Int)).map (Value.int .u8)).toArray := by
  apply Array.ext'
  rw [toList_madeCells_one]
  simp
theorem SlR.lit {k : IntKind} (w : World) (t : TypeId) (zs : List Int) {cs : Array Value} (hcs : cs = (zs.map (Value.int k)).toArray) : SlR (IntC k) 1 (w.alloc (.cells cs t)) (some (nb w)) zs := by
  subst hcs
  refine .inr ⟨_, rfl, fun i hi => ?_⟩
  have hB := Blk.new w t (zs.map (Value.int k)).toArray
  show World.cell? _ _ = _
  rw [nb_add, Nat.mul_one]
  exact hB.cell0 i (by simp [hi])
theorem zeros_bytes (n : Nat) : Bytes (List.replicate n 0) := fun i hi => by simp
theorem _root_.Go.Sx.Bytes.take {xs : List Int} (h : Bytes xs) (n : Nat) : Bytes (xs.take n) := fun i hi => by
  rw [List.getElem_take]; exact h _ _
theorem _root_.Go.Sx.Bytes.drop {xs : List Int} (h : Bytes xs) (n : Nat) : Bytes (xs.drop n) := fun i hi => by
  rw [List.getElem_drop]; exact h _ _
theorem keepsF (w w' : World) : KeepsB (fun _ => False) w w' := fun _ _ h => h.elim
theorem BOut.sl {w w' : World} {L : List Int} {E : Int} {e : Ending} (h : BOut w L E e w') : ∃ a' c', e = .returned (.tuple #[.slice a' L.length c', .int .i64 E]) ∧ SlR (IntC .u8) 1 w' a' L ∧ L.length ≤ c' ∧ Below w.heap.size w w' := by
  obtain ⟨a', c', he, ho, hb⟩ := h
  exact ⟨a', c', he, ho.sl, ho.cap, hb⟩

def zk : List Int := List.replicate 32 0
def zn : List Int := List.replicate 12 0
set_option maxRecDepth 1000000 in
theorem wk_block : (blockL zk 0 zn).getD 0 0 ≠ (blockL zk 0 zn).getD 32 0 := by decide +kernel
theorem wk_quarter : (qi 1 0 0 0).a = 268435457 := by decide +kernel
theorem wk_halves : (blockL zk 0 zn).take 32 ≠ (blockL zk 0 zn).drop 32 := by
  intro h
  have hl := blockL_length zk 0 zn
  have := congrArg (fun l => l.getD 0 0) h
  simp only [List.getD, List.getElem?_take, List.getElem?_drop] at this
  exact wk_block (by simpa [List.getD] using this)

theorem awake_ok (w : World) (hT : LaneT w) : Calls Tryd.prog N_law13_awake #[] w fun e w' => e = .returned (.bool true) ∧ Below w.heap.size w w' := by
  apply F_law13_awake_ok
  unfold F_law13_awake
  refine ⟨fun ba bl bc e1 w8 => e1 = 0 ∧ bl = 64 ∧ 64 ≤ bc ∧ SlR (IntC .u8) 1 w8 ba (blockL zk 0 zn) ∧ Below w.heap.size w w8, ?_, ?_⟩
  · rintro _ ba bl bc e1 w8 ⟨rfl, rfl, hc, hb8, b8⟩
    refine (Quarter_ok 1 0 0 0 w8).mono ?_
    rintro _ w9 ⟨rfl, b9⟩
    refine ⟨_, _, _, _, rfl, ?_⟩
    intro w10
    have hX10 : Blk w10 w9.heap.size Ty_4_int #[.int .i64 0, .int .i64 0, .int .i64 0, .int .i64 0] := Blk.new w9 _ _
    have b10 : Below w9.heap.size w9 w10 := (Below.refl _ _).alloc (Nat.le_refl _) _
    clear_value w10
    refine blk_storeAll hX10 rfl rfl fun w11 hX11 ht11 => ?_
    have b11 := b10.but ht11 (Nat.le_refl _)
    intro w12
    have hX12 : Blk w12 w9.heap.size Ty_4_int [Value.int .i64 (qi 1 0 0 0).a, .int .i64 (qi 1 0 0 0).b, .int .i64 (qi 1 0 0 0).c, .int .i64 (qi 1 0 0 0).d].toArray := hX11
    have b12 : Below w9.heap.size w9 w12 := b11.drew
    clear_value w12
    have B12 := below_step (below_step b8 (Nat.le_refl _) b9) (Nat.le_refl _) b12
    have hb12 := (hb8.below b9).below b12
    have hl := blockL_length zk 0 zn
    refine ⟨(· < w12.heap.size), bsplit_intro (fun _ => ?_) (fun h => by simp at h)⟩
    refine bsplit_intro (fun _ => ?_) (fun h => by simp at h)
    refine ⟨⟨by omega, by omega⟩, ⟨by omega, by omega⟩, ?_⟩
    have hA := hb12.cut (m := bc) (l := 0) (by omega) 32
    have hB := hb12.tail (m := bc) (l := 32) (by omega)
    have hby : Bytes (blockL zk 0 zn) := outL_bytes _ _
    have := same_ok (c1 := bc - 0) (c2 := bc - (32 : Int).toNat) hA hB ((hby.drop 0).take 32) (hby.drop 32)
    rw [show (((blockL zk 0 zn).drop 0).take 32).length = (32 : Int).toNat - 0 by simp [hl], show ((blockL zk 0 zn).drop 32).length = 64 - (32 : Int).toNat by simp [hl]] at this
    refine this.mono ?_
    rintro _ w13 ⟨rfl, rfl⟩
    refine ⟨_, rfl, KeepsB.refl _ _, ?_⟩
    rw [List.drop_zero, decide_eq_false wk_halves]
    refine bsplit_intro (fun _ => ?_) (fun h => by simp at h)
    refine ⟨hX12.lt, _, hX12.cell0 0 rfl, ?_⟩
    intro x1
    have : x1 = true := by simp only [x1]; rw [wk_quarter]; rfl
    rw [this]
    exact ⟨rfl, B12⟩
  · intro w1
    have b1 : Below w.heap.size w w1 := (Below.refl _ _).drew
    clear_value w1
    have hE : blkE zk 0 zn = 0 := by decide
    have hR : blkR zk 0 zn = blockL zk 0 zn := by unfold blkR; rw [if_pos hE]
    refine ⟨fun _ => False, ?_, ?_, trivial⟩
    · refine ⟨by decide, ?_⟩
      intro w5
      have hk5 : SlR (IntC .u8) 1 w5 (some (nb w1)) zk := SlR.lit w1 Ty_uint8 zk (made_zero _)
      have b5 : Below w1.heap.size w1 w5 := (Below.refl _ _).alloc (Nat.le_refl _) _
      clear_value w5
      refine ⟨keepsF _ _, by decide, ?_⟩
      intro w6
      have hn6 : SlR (IntC .u8) 1 w6 (some (nb w5)) zn := SlR.lit w5 Ty_uint8 zn (made_zero _)
      have b6 : Below w5.heap.size w5 w6 := (Below.refl _ _).alloc (Nat.le_refl _) _
      clear_value w6
      have B6 := below_step (below_step b1 (Nat.le_refl _) b5) (Nat.le_refl _) b6
      refine ⟨keepsF _ _, ?_⟩
      have := Block_ok (kc := (32 : Int).toNat) (nc := (12 : Int).toNat) (ctr := 0) (hk5.below b6) hn6 (by decide) (by decide) (hT.below B6)
      rw [hE, hR] at this
      refine Calls.mono this ?_
      intro _ w7 h7
      obtain ⟨a', c', rfl, ho, hc, b7⟩ := h7.sl
      have hl := blockL_length zk 0 zn
      exact ⟨_, _, _, _, rfl, keepsF _ _, rfl, hl, by omega, ho, below_step B6 (Nat.le_refl _) b7⟩
    · refine ⟨by decide, ?_⟩
      intro w2
      have hn2 : SlR (IntC .u8) 1 w2 (some (nb w1)) zn := SlR.lit w1 Ty_uint8 zn (made_zero _)
      have b2 : Below w1.heap.size w1 w2 := (Below.refl _ _).alloc (Nat.le_refl _) _
      clear_value w2
      refine ⟨keepsF _ _, by decide, ?_⟩
      intro w3
      have hk3 : SlR (IntC .u8) 1 w3 (some (nb w2)) zk := SlR.lit w2 Ty_uint8 zk (made_zero _)
      have b3 : Below w2.heap.size w2 w3 := (Below.refl _ _).alloc (Nat.le_refl _) _
      clear_value w3
      have B3 := below_step (below_step b1 (Nat.le_refl _) b2) (Nat.le_refl _) b3
      refine ⟨keepsF _ _, ?_⟩
      have := Block_ok (kc := (32 : Int).toNat) (nc := (12 : Int).toNat) (ctr := 0) hk3 (hn2.below b3) (by decide) (by decide) (hT.below B3)
      rw [hE, hR] at this
      refine Calls.mono this ?_
      intro _ w7 h7
      obtain ⟨a', c', rfl, ho, hc, b7⟩ := h7.sl
      have hl := blockL_length zk 0 zn
      exact ⟨_, _, _, _, rfl, keepsF _ _, rfl, hl, by omega, ho, below_step B3 (Nat.le_refl _) b7⟩

/-! ## Plain laws of Xor -/
theorem xor8_twice {x y : Int} (hx : 0 ≤ x ∧ x < 256) (hy : 0 ≤ y ∧ y < 256) : bXor .u8 (bXor .u8 x y) y = x := by
  obtain ⟨m, rfl⟩ := natOf hx.1
  obtain ⟨k, rfl⟩ := natOf hy.1
  have hm : m < 2 ^ 8 := by omega
  have hk : k < 2 ^ 8 := by omega
  have h1 : m ^^^ k < 2 ^ 8 := Nat.xor_lt_two_pow hm hk
  rw [bXor_nat .u8 m k hm hk, IntWalk.u8_in _ (by omega), bXor_nat .u8 _ k h1 hk, Nat.xor_assoc, Nat.xor_self, Nat.xor_zero, IntWalk.u8_in _ (by omega)]
theorem xorL_getD {key nonce b : List Int} {n i : Nat} (h : i < n) : (xorL key nonce b n).getD i 0 = xorAt key nonce b i := by
  rw [getD_at (by rw [xorL_length]; exact h)]; simp [xorL]
theorem xorL_twice {key nonce b : List Int} (hb : Bytes b) : xorL key nonce (xorL key nonce b b.length) b.length = b := by
  apply List.ext_getElem (xorL_length _ _ _ _)
  intro i h1 h2
  simp only [xorL, List.getElem_map, List.getElem_range]
  have e : ((List.range b.length).map (xorAt key nonce b)).getD i 0 = xorAt key nonce b i := xorL_getD h2
  unfold xorAt at e ⊢
  rw [e, getD_at h2]
  have hbl := blockL_length key ((i / 64 : Nat) : Int) nonce
  rw [getD_at (show i % 64 < (blockL key ((i / 64 : Nat) : Int) nonce).length by omega)]
  exact xor8_twice (hb i h2) (outL_bytes _ _ _ _)
theorem xorL_take {key nonce b : List Int} {c : Nat} (h : c ≤ b.length) : xorL key nonce (b.take c) c = (xorL key nonce b b.length).take c := by
  apply List.ext_getElem (by rw [xorL_length, List.length_take, xorL_length]; omega)
  intro i h1 h2
  rw [xorL_length] at h1
  simp only [xorL, List.getElem_map, List.getElem_range, List.getElem_take]
  unfold xorAt
  simp only [List.getD, List.getElem?_take, if_pos h1]
theorem xorL_zero {key nonce : List Int} {n : Nat} (i : Nat) (h : 64 * i + 64 ≤ n) : ((xorL key nonce (List.replicate n 0) n).drop (64 * i)).take 64 = blockL key (i : Int) nonce := by
  have hbl := blockL_length key (i : Int) nonce
  apply List.ext_getElem (by rw [List.length_take, List.length_drop, xorL_length]; omega)
  intro j h1 h2
  simp only [List.getElem_take, List.getElem_drop, xorL, List.getElem_map, List.getElem_range]
  unfold xorAt
  rw [hbl] at h2
  rw [show (64 * i + j) / 64 = i by omega, show (64 * i + j) % 64 = j by omega, getD_at (show 64 * i + j < (List.replicate n (0 : Int)).length by simp; omega), getD_at (show j < (blockL key (i : Int) nonce).length by omega), List.getElem_replicate]
  obtain ⟨h0, h256⟩ := outL_bytes (st0 key (i : Int) nonce) 16 j (by rw [outL_length]; omega)
  obtain ⟨m, hm⟩ := natOf h0
  have hm2 : (blockL key (i : Int) nonce)[j]'(by omega) = m := hm
  have hlt : m < 2 ^ 8 := by rw [hm] at h256; omega
  rw [hm2, show (0 : Int) = ((0 : Nat) : Int) from rfl, bXor_nat .u8 0 m (by decide) hlt, Nat.zero_xor, IntWalk.u8_in _ (by omega)]
end Go.Proofs.YtblfbanfepocnaaDoor
