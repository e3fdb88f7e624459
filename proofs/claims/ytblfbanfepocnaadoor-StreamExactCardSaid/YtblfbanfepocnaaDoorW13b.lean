import Derived.Test.YtblfbanfepocnaaDoorW13a
namespace Go.Proofs.YtblfbanfepocnaaDoor
open Go.Sx Go.RowKit

/-! ## Words and states -/
def word4 (xs : List Int) : Int :=
  bOr .u32 (bOr .u32 (bOr .u32 (w32 (xs.getD 0 0)) (w32 (w32 (xs.getD 1 0) * 2 ^ 8))) (w32 (w32 (xs.getD 2 0) * 2 ^ 16))) (w32 (w32 (xs.getD 3 0) * 2 ^ 24))
def laneL : List Nat := [0, 4, 8, 12, 1, 5, 9, 13, 2, 6, 10, 14, 3, 7, 11, 15, 0, 5, 10, 15, 1, 6, 11, 12, 2, 7, 8, 13, 3, 4, 9, 14]
def lane (j : Nat) : Nat := laneL.getD j 0
abbrev St := Nat → Int
def laneQ (s : St) (i : Nat) : Q4 := qr (s (lane (4 * i))) (s (lane (4 * i + 1))) (s (lane (4 * i + 2))) (s (lane (4 * i + 3)))
def upd4 (s : St) (i : Nat) : St := fun j =>
  if j = lane (4 * i + 3) then (laneQ s i).d else if j = lane (4 * i + 2) then (laneQ s i).c else if j = lane (4 * i + 1) then (laneQ s i).b else if j = lane (4 * i) then (laneQ s i).a else s j
def rnd (s : St) : Nat → St
  | 0 => s
  | k + 1 => upd4 (rnd s k) k
def rnds (s : St) : Nat → St
  | 0 => s
  | r + 1 => rnd (rnds s r) 8
def constL : List Int := [1634760805, 857760878, 2036477234, 1797285236]
def st0 (key : List Int) (ctr : Int) (nonce : List Int) : St := fun j =>
  if j < 4 then constL.getD j 0 else if j < 12 then word4 (key.drop (4 * (j - 4))) else if j = 12 then w32 ctr else word4 (nonce.drop (4 * (j - 13)))
def by4 (v : Int) : List Int := [IntKind.wrap .u8 v, IntKind.wrap .u8 (Int.fdiv v (2 ^ 8)), IntKind.wrap .u8 (Int.fdiv v (2 ^ 16)), IntKind.wrap .u8 (Int.fdiv v (2 ^ 24))]
def outL (s : St) : Nat → List Int
  | 0 => []
  | i + 1 => outL s i ++ by4 (w32 (rnds s 10 i + s i))
def blockL (key : List Int) (ctr : Int) (nonce : List Int) : List Int := outL (st0 key ctr nonce) 16
theorem outL_length (s : St) : ∀ i, (outL s i).length = 4 * i
  | 0 => rfl
  | i + 1 => by rw [outL, List.length_append, outL_length s i]; simp [by4]; omega
theorem lane_lt : ∀ j, j < 32 → lane j < 16 := by decide
theorem u8_range (n : Int) : 0 ≤ IntKind.wrap .u8 n ∧ IntKind.wrap .u8 n < 256 := by rw [IntKind.wrap_u8]; omega
theorem by4_bytes (v : Int) : Bytes (by4 v) := by
  intro i hi
  rcases (show i = 0 ∨ i = 1 ∨ i = 2 ∨ i = 3 by simp [by4] at hi; omega) with rfl | rfl | rfl | rfl <;> exact u8_range _
theorem _root_.Go.Sx.Bytes.append {xs ys : List Int} (hx : Bytes xs) (hy : Bytes ys) : Bytes (xs ++ ys) := by
  intro i hi
  rw [List.getElem_append]
  split
  · exact hx _ _
  · exact hy _ _
theorem outL_bytes (s : St) : ∀ i, Bytes (outL s i)
  | 0 => fun i hi => by simp [outL] at hi
  | i + 1 => (outL_bytes s i).append (by4_bytes _)

section
variable {a : Option Addr} {xs : List Int} {c : Nat} {w : World}
theorem load_ok (ha : SlR (IntC .u8) 1 w a xs) (h4 : 4 ≤ xs.length) : Calls Tryd.prog N_stream_load #[.slice a xs.length c] w fun e w' => e = .returned (.int .u32 (word4 xs)) ∧ Below w.heap.size w w' := by
  apply F_stream_load_ok
  unfold F_stream_load
  intro w1
  have b1 : Below w.heap.size w w1 := (Below.refl _ _).drew
  clear_value w1
  have hr := ha.below b1
  obtain ⟨b, rfl, h0⟩ := hr.get (i := 0) (by omega)
  obtain ⟨b', hb', h1⟩ := hr.get (i := 1) (by omega)
  injection hb' with hb'; subst hb'
  obtain ⟨b', hb', h2⟩ := hr.get (i := 2) (by omega)
  injection hb' with hb'; subst hb'
  obtain ⟨b', hb', h3⟩ := hr.get (i := 3) (by omega)
  injection hb' with hb'; subst hb'
  refine ⟨b, rfl, ⟨by omega, by omega⟩, _, h0, b, rfl, ⟨by omega, by omega⟩, _, h1, b, rfl, ⟨by omega, by omega⟩, _, h2, b, rfl, ⟨by omega, by omega⟩, _, h3, ?_⟩
  refine ⟨?_, b1⟩
  unfold word4
  rw [getD_at (show 0 < xs.length by omega), getD_at (show 1 < xs.length by omega), getD_at (show 2 < xs.length by omega), getD_at (show 3 < xs.length by omega)]
  rfl
theorem word_ok (ha : SlR (IntC .u8) 1 w a xs) (h4 : 4 ≤ xs.length) : Calls Tryd.prog N_ref13_word #[.slice a xs.length c] w fun e w' => e = .returned (.int .u32 (word4 xs)) ∧ Below w.heap.size w w' := by
  apply F_ref13_word_ok
  unfold F_ref13_word
  intro w1
  have b1 : Below w.heap.size w w1 := (Below.refl _ _).drew
  clear_value w1
  have hr := ha.below b1
  obtain ⟨b, rfl, h0⟩ := hr.get (i := 0) (by omega)
  obtain ⟨b', hb', h1⟩ := hr.get (i := 1) (by omega)
  injection hb' with hb'; subst hb'
  obtain ⟨b', hb', h2⟩ := hr.get (i := 2) (by omega)
  injection hb' with hb'; subst hb'
  obtain ⟨b', hb', h3⟩ := hr.get (i := 3) (by omega)
  injection hb' with hb'; subst hb'
  refine ⟨b, rfl, ⟨by omega, by omega⟩, _, h0, b, rfl, ⟨by omega, by omega⟩, _, h1, b, rfl, ⟨by omega, by omega⟩, _, h2, b, rfl, ⟨by omega, by omega⟩, _, h3, ?_⟩
  refine ⟨?_, b1⟩
  unfold word4
  rw [getD_at (show 0 < xs.length by omega), getD_at (show 1 < xs.length by omega), getD_at (show 2 < xs.length by omega), getD_at (show 3 < xs.length by omega)]
  rfl
theorem first_ok (w : World) : Calls Tryd.prog N_stream_first #[] w fun e w' => e = .returned (.agg #[.int .u32 1634760805, .int .u32 857760878, .int .u32 2036477234, .int .u32 1797285236]) ∧ Below w.heap.size w w' := by
  apply F_stream_first_ok
  unfold F_stream_first
  intro w1
  have hB : Blk w1 w.heap.size Ty_4_uint32 #[.int .u32 0, .int .u32 0, .int .u32 0, .int .u32 0] := Blk.new w _ _
  have b1 : Below w.heap.size w w1 := (Below.refl _ _).alloc (Nat.le_refl _) _
  clear_value w1
  exact blk_storeAll hB rfl rfl fun w4 hB4 hs4 => ⟨_, _, _, _, blk_cellsAll hB4, rfl, b1.but hs4 (Nat.le_refl _)⟩
theorem store_ok {base : Nat} (ho : OwnI w base Ty_uint8 .u8 a xs.length c xs) (hb : base ≤ w.heap.size) (hl : xs.length ≤ 1048576) (v : Int) :
    Calls Tryd.prog N_stream_store #[.slice a xs.length c, .int .u32 v] w fun e w' => ∃ a' c', e = .returned (.slice a' (xs.length + 4) c') ∧ OwnI w' base Ty_uint8 .u8 a' (xs.length + 4) c' (xs ++ by4 v) ∧ Below base w w' := by
  apply F_stream_store_ok
  unfold F_stream_store
  intro w2
  have hs : SlR (IntC .u8) 1 w2 (some (nb w)) (by4 v) := by
    refine .inr ⟨_, rfl, fun i hi => ?_⟩
    have hB := Blk.new w Ty_uint8 ((by4 v).map (Value.int .u8)).toArray
    show World.cell? _ _ = _
    rw [nb_add, Nat.mul_one]
    exact hB.cell0 i (by simp [hi])
  have ho2 : OwnI w2 base Ty_uint8 .u8 a xs.length c xs := ho.alloc _
  have b2 : Below base w w2 := (Below.refl _ _).alloc hb _
  have hs2 : base ≤ w2.heap.size := by simp [w2]; omega
  clear_value w2
  refine ho2.appSl (b := some (nb w)) (news := by4 v) (c2 := 4) sl_Ty_S_uint8 hs (by simp [by4]; omega) (by simp [by4]; omega) hs2 fun a' c' w' ho' hg _ => ?_
  exact ⟨a', c', rfl, ho', b2.app hg hs2 fun k hk => (ho2.lt hk).1⟩
end
end Go.Proofs.YtblfbanfepocnaaDoor
