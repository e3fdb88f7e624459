import Derived.Test.YtblfbanfepocnaaDoorCmMod
import Derived.Test.YtblfbanfepocnaaDoorTys
namespace Go.Proofs.YtblfbanfepocnaaDoor
open Go.Sx Go.RowKit

/-! ## The quarter round -/
def rotl (x : Int) (n : Nat) : Int := bOr .u32 (IntKind.wrap .u32 (x * 2 ^ n)) (Int.fdiv x (2 ^ (32 - n)))
def w32 (n : Int) : Int := IntKind.wrap .u32 n
structure Q4 where
  a : Int
  b : Int
  c : Int
  d : Int
def qr (a b c d : Int) : Q4 :=
  let a1 := w32 (a + b)
  let r := rotl (bXor .u32 d a1) 16
  let c1 := w32 (c + r)
  let r1 := rotl (bXor .u32 b c1) 12
  let a2 := w32 (a1 + r1)
  let r2 := rotl (bXor .u32 r a2) 8
  let c2 := w32 (c1 + r2)
  let r3 := rotl (bXor .u32 r1 c2) 7
  ⟨a2, r3, c2, r2⟩

theorem w32_range (n : Int) : 0 ≤ w32 n ∧ w32 n < 4294967296 := by unfold w32; rw [IntKind.wrap_u32]; omega
theorem bXor_range (a b : Int) : 0 ≤ bXor .u32 a b ∧ bXor .u32 a b < 4294967296 := w32_range _
theorem rotl_range (a : Int) (n : Nat) : 0 ≤ rotl a n ∧ rotl a n < 4294967296 := w32_range _

theorem turn_ok (x : Int) (n : Nat) (h0 : 0 < n) (h : n < 32) (w : World) : Calls Tryd.prog N_ref13_turn #[.int .u32 x, .int .u64 n] w fun e w' => e = .returned (.int .u32 (rotl x n)) ∧ w' = w := by
  apply F_ref13_turn_ok
  unfold F_ref13_turn
  have e : IntKind.wrap .u64 (32 - (n : Int)) = ((32 - n : Nat) : Int) := by rw [IntWalk.u64_in _ (by omega)]; omega
  rw [e, Int.toNat_natCast, Int.toNat_natCast, show min n (IntKind.bits .u32) = n from Nat.min_eq_left (by show n ≤ 32; omega), show min (32 - n) (IntKind.bits .u32) = 32 - n from Nat.min_eq_left (by show 32 - n ≤ 32; omega)]
  exact ⟨by omega, by omega, rfl, rfl⟩
theorem and31 : ∀ n : Nat, n < 32 → n &&& 31 = n := by decide
theorem rotateLeft_ok (x : Int) (n : Nat) (h0 : 0 < n) (h : n < 32) (w : World) : Calls Tryd.prog N_math_bits_RotateLeft32 #[.int .u32 x, .int .i64 n] w fun e w' => e = .returned (.int .u32 (rotl x n)) ∧ w' = w := by
  apply F_math_bits_RotateLeft32_ok
  unfold F_math_bits_RotateLeft32
  intro s
  have es : s = (n : Int) := by
    simp only [s]
    rw [IntWalk.u64_in (n : Int) (by omega)]
    have := bAnd_nat .u64 n 31 (by show n < 2 ^ 64; omega) (by decide)
    rw [show (31 : Int) = ((31 : Nat) : Int) from rfl, this, and31 n h, IntWalk.u64_in _ (by omega)]
  clear_value s
  subst es
  have e : IntKind.wrap .u64 (32 - (n : Int)) = ((32 - n : Nat) : Int) := by rw [IntWalk.u64_in _ (by omega)]; omega
  rw [e, Int.toNat_natCast, Int.toNat_natCast, show min n (IntKind.bits .u32) = n from Nat.min_eq_left (by show n ≤ 32; omega), show min (32 - n) (IntKind.bits .u32) = 32 - n from Nat.min_eq_left (by show 32 - n ≤ 32; omega)]
  exact ⟨by omega, by omega, rfl, rfl⟩
def Q4.vals (q : Q4) : Value := .tuple #[.int .u32 q.a, .int .u32 q.b, .int .u32 q.c, .int .u32 q.d]
def Q4.arr (q : Q4) : Value := .agg #[.int .i64 q.a, .int .i64 q.b, .int .i64 q.c, .int .i64 q.d]
theorem quarter_ok (a b c d : Int) (w : World) : Calls Tryd.prog N_stream_quarter #[.int .u32 a, .int .u32 b, .int .u32 c, .int .u32 d] w fun e w' => e = .returned (qr a b c d).vals ∧ w' = w := by
  apply F_stream_quarter_ok
  unfold F_stream_quarter
  intro a1
  refine (rotateLeft_ok _ 16 (by decide) (by decide) w).mono ?_
  rintro _ w1 ⟨rfl, rfl⟩
  refine ⟨_, rfl, ?_⟩
  intro c1
  refine (rotateLeft_ok _ 12 (by decide) (by decide) w1).mono ?_
  rintro _ w2 ⟨rfl, rfl⟩
  refine ⟨_, rfl, ?_⟩
  intro a2
  refine (rotateLeft_ok _ 8 (by decide) (by decide) w2).mono ?_
  rintro _ w3 ⟨rfl, rfl⟩
  refine ⟨_, rfl, ?_⟩
  intro c2
  refine (rotateLeft_ok _ 7 (by decide) (by decide) w3).mono ?_
  rintro _ w4 ⟨rfl, rfl⟩
  exact ⟨_, rfl, rfl, rfl⟩
theorem refquarter_ok (a b c d : Int) (w : World) : Calls Tryd.prog N_ref13_quarter #[.int .u32 a, .int .u32 b, .int .u32 c, .int .u32 d] w fun e w' => e = .returned (qr a b c d).vals ∧ w' = w := by
  apply F_ref13_quarter_ok
  unfold F_ref13_quarter
  intro a1
  refine (turn_ok _ 16 (by decide) (by decide) w).mono ?_
  rintro _ w1 ⟨rfl, rfl⟩
  refine ⟨_, rfl, ?_⟩
  intro c1
  refine (turn_ok _ 12 (by decide) (by decide) w1).mono ?_
  rintro _ w2 ⟨rfl, rfl⟩
  refine ⟨_, rfl, ?_⟩
  intro a2
  refine (turn_ok _ 8 (by decide) (by decide) w2).mono ?_
  rintro _ w3 ⟨rfl, rfl⟩
  refine ⟨_, rfl, ?_⟩
  intro c2
  refine (turn_ok _ 7 (by decide) (by decide) w3).mono ?_
  rintro _ w4 ⟨rfl, rfl⟩
  exact ⟨_, rfl, rfl, rfl⟩
theorem qr_range (a b c d : Int) : (0 ≤ (qr a b c d).a ∧ (qr a b c d).a < 4294967296) ∧ (0 ≤ (qr a b c d).b ∧ (qr a b c d).b < 4294967296) ∧ (0 ≤ (qr a b c d).c ∧ (qr a b c d).c < 4294967296) ∧ (0 ≤ (qr a b c d).d ∧ (qr a b c d).d < 4294967296) :=
  ⟨w32_range _, rotl_range _ _, w32_range _, rotl_range _ _⟩

/-- the quarter round of four integers -/
def qi (x0 x1 x2 x3 : Int) : Q4 := qr (w32 x0) (w32 x1) (w32 x2) (w32 x3)
section
variable (x0 x1 x2 x3 : Int) (w : World)
theorem Quarter_ok : Calls Tryd.prog N_stream_Quarter #[.agg #[.int .i64 x0, .int .i64 x1, .int .i64 x2, .int .i64 x3]] w fun e w' => e = .returned (qi x0 x1 x2 x3).arr ∧ Below w.heap.size w w' := by
  apply F_stream_Quarter_ok
  unfold F_stream_Quarter
  intro w1 w2
  have hB : Blk w1 w.heap.size Ty_4_int #[.int .i64 x0, .int .i64 x1, .int .i64 x2, .int .i64 x3] := Blk.new w _ _
  have hB2 : Blk w2 w.heap.size Ty_4_int #[.int .i64 x0, .int .i64 x1, .int .i64 x2, .int .i64 x3] := hB.alloc _
  have hC2 : Blk w2 w1.heap.size Ty_4_int #[.int .i64 0, .int .i64 0, .int .i64 0, .int .i64 0] := Blk.new w1 _ _
  have b1 : Below w.heap.size w w1 := (Below.refl _ _).alloc (Nat.le_refl _) _
  have b2 : Below w.heap.size w w2 := b1.alloc b1.size _
  have hs : w.heap.size ≤ w1.heap.size := b1.size
  clear_value w2 w1
  refine ⟨_, hB2.cell0 0 rfl, _, by rw [nb_add]; exact hB2.cell0 1 rfl, _, by rw [nb_add]; exact hB2.cell0 2 rfl, _, by rw [nb_add]; exact hB2.cell0 3 rfl, ?_⟩
  refine (quarter_ok _ _ _ _ w2).mono ?_
  rintro _ w3 ⟨rfl, rfl⟩
  refine ⟨_, _, _, _, rfl, ?_⟩
  obtain ⟨r0, r1, r2, r3⟩ := qr_range (IntKind.wrap .u32 x0) (IntKind.wrap .u32 x1) (IntKind.wrap .u32 x2) (IntKind.wrap .u32 x3)
  rw [wrap_id (qr _ _ _ _).a (by omega), wrap_id (qr _ _ _ _).b (by omega), wrap_id (qr _ _ _ _).c (by omega), wrap_id (qr _ _ _ _).d (by omega)]
  exact blk_storeAll hC2 rfl rfl fun w4 hB4 hs4 => ⟨_, _, _, _, blk_cellsAll hB4, rfl, b2.but hs4 hs⟩
theorem refQuarter_ok : Calls Tryd.prog N_ref13_Quarter #[.agg #[.int .i64 x0, .int .i64 x1, .int .i64 x2, .int .i64 x3]] w fun e w' => e = .returned (qi x0 x1 x2 x3).arr ∧ Below w.heap.size w w' := by
  apply F_ref13_Quarter_ok
  unfold F_ref13_Quarter
  intro w1 w2
  have hB : Blk w1 w.heap.size Ty_4_int #[.int .i64 x0, .int .i64 x1, .int .i64 x2, .int .i64 x3] := Blk.new w _ _
  have hB2 : Blk w2 w.heap.size Ty_4_int #[.int .i64 x0, .int .i64 x1, .int .i64 x2, .int .i64 x3] := hB.alloc _
  have hC2 : Blk w2 w1.heap.size Ty_4_int #[.int .i64 0, .int .i64 0, .int .i64 0, .int .i64 0] := Blk.new w1 _ _
  have b1 : Below w.heap.size w w1 := (Below.refl _ _).alloc (Nat.le_refl _) _
  have b2 : Below w.heap.size w w2 := b1.alloc b1.size _
  have hs : w.heap.size ≤ w1.heap.size := b1.size
  clear_value w2 w1
  refine ⟨_, hB2.cell0 0 rfl, _, by rw [nb_add]; exact hB2.cell0 1 rfl, _, by rw [nb_add]; exact hB2.cell0 2 rfl, _, by rw [nb_add]; exact hB2.cell0 3 rfl, ?_⟩
  refine (refquarter_ok _ _ _ _ w2).mono ?_
  rintro _ w3 ⟨rfl, rfl⟩
  refine ⟨_, _, _, _, rfl, ?_⟩
  obtain ⟨r0, r1, r2, r3⟩ := qr_range (IntKind.wrap .u32 x0) (IntKind.wrap .u32 x1) (IntKind.wrap .u32 x2) (IntKind.wrap .u32 x3)
  rw [wrap_id (qr _ _ _ _).a (by omega), wrap_id (qr _ _ _ _).b (by omega), wrap_id (qr _ _ _ _).c (by omega), wrap_id (qr _ _ _ _).d (by omega)]
  exact blk_storeAll hC2 rfl rfl fun w4 hB4 hs4 => ⟨_, _, _, _, blk_cellsAll hB4, rfl, b2.but hs4 hs⟩
end

/-! ## Different words stay different -/
theorem w32_add_inj {a a' b : Int} (ha : 0 ≤ a ∧ a < 4294967296) (ha' : 0 ≤ a' ∧ a' < 4294967296) (h : w32 (a + b) = w32 (a' + b)) : a = a' := by
  unfold w32 at h
  rw [IntKind.wrap_u32, IntKind.wrap_u32] at h
  omega
theorem nat32 {n : Int} (h : 0 ≤ n ∧ n < 4294967296) : ∃ m : Nat, n = m ∧ m < 2 ^ 32 := ⟨n.toNat, by omega, by omega⟩
theorem bXor_inj {a a' b : Int} (ha : 0 ≤ a ∧ a < 4294967296) (ha' : 0 ≤ a' ∧ a' < 4294967296) (hb : 0 ≤ b ∧ b < 4294967296) (h : bXor .u32 a b = bXor .u32 a' b) : a = a' := by
  obtain ⟨m, rfl, hm⟩ := nat32 ha
  obtain ⟨m', rfl, hm'⟩ := nat32 ha'
  obtain ⟨k, rfl, hk⟩ := nat32 hb
  rw [bXor_nat .u32 m k hm hk, bXor_nat .u32 m' k hm' hk] at h
  have l1 : m ^^^ k < 2 ^ 32 := Nat.xor_lt_two_pow hm hk
  have l2 : m' ^^^ k < 2 ^ 32 := Nat.xor_lt_two_pow hm' hk
  rw [u32_in (by omega), u32_in (by omega)] at h
  have h2 : m ^^^ k = m' ^^^ k := by omega
  have h3 := congrArg (· ^^^ k) h2
  simp only [Nat.xor_assoc, Nat.xor_self, Nat.xor_zero] at h3
  rw [h3]
theorem rotl_sum {x : Nat} (hx : x < 2 ^ 32) {n : Nat} (h0 : 0 < n) (hn : n < 32) : rotl (x : Int) n = ((2 ^ n * (x % 2 ^ (32 - n)) + x / 2 ^ (32 - n) : Nat) : Int) := by
  have e32 : 2 ^ 32 = 2 ^ n * 2 ^ (32 - n) := by rw [← Nat.pow_add]; congr 1; omega
  have pn : 0 < 2 ^ n := Nat.two_pow_pos n
  have pm : 0 < 2 ^ (32 - n) := Nat.two_pow_pos _
  have hlo : x / 2 ^ (32 - n) < 2 ^ n := by rw [Nat.div_lt_iff_lt_mul pm, ← e32]; exact hx
  have hmod : x % 2 ^ (32 - n) < 2 ^ (32 - n) := Nat.mod_lt _ pm
  have e1 : IntKind.wrap .u32 ((x : Int) * 2 ^ n) = ((2 ^ n * (x % 2 ^ (32 - n)) : Nat) : Int) := by
    rw [IntKind.wrap_u32]
    have : (x : Int) * 2 ^ n = ((2 ^ n * x : Nat) : Int) := by rw [Int.natCast_mul, Int.mul_comm]; simp
    rw [this]
    have e4 : 2 ^ n * (x % 2 ^ (32 - n)) = (2 ^ n * x) % 2 ^ 32 := by rw [e32, Nat.mul_mod_mul_left]
    rw [e4]; omega
  have e2 : Int.fdiv (x : Int) (2 ^ (32 - n)) = ((x / 2 ^ (32 - n) : Nat) : Int) := by
    have h : (2 : Int) ^ (32 - n) = ((2 ^ (32 - n) : Nat) : Int) := by simp
    rw [Int.fdiv_eq_ediv_of_nonneg _ (by rw [h]; exact Int.natCast_nonneg _), h, ← Int.natCast_ediv]
  have hA : 2 ^ n * (x % 2 ^ (32 - n)) < 2 ^ 32 := by rw [e32]; exact Nat.mul_lt_mul_of_pos_left hmod pn
  have hC : x / 2 ^ (32 - n) < 2 ^ 32 := Nat.lt_of_le_of_lt (Nat.div_le_self _ _) hx
  unfold rotl
  rw [e1, e2, bOr_nat .u32 _ _ hA hC, ← Nat.two_pow_add_eq_or_of_lt hlo]
  have hS : 2 ^ n * (x % 2 ^ (32 - n)) + x / 2 ^ (32 - n) < 2 ^ 32 := by
    have : 2 ^ n * (x % 2 ^ (32 - n)) + 2 ^ n ≤ 2 ^ n * 2 ^ (32 - n) := by
      rw [← Nat.mul_succ]; exact Nat.mul_le_mul_left _ hmod
    omega
  exact u32_in ⟨Int.natCast_nonneg _, Int.ofNat_lt.2 hS⟩
theorem rotl_inj {x y : Int} (hx : 0 ≤ x ∧ x < 4294967296) (hy : 0 ≤ y ∧ y < 4294967296) {n : Nat} (h0 : 0 < n) (hn : n < 32) (h : rotl x n = rotl y n) : x = y := by
  obtain ⟨m, rfl, hm⟩ := nat32 hx
  obtain ⟨k, rfl, hk⟩ := nat32 hy
  rw [rotl_sum hm h0 hn, rotl_sum hk h0 hn] at h
  have e32 : 2 ^ 32 = 2 ^ n * 2 ^ (32 - n) := by rw [← Nat.pow_add]; congr 1; omega
  have pm : 0 < 2 ^ (32 - n) := Nat.two_pow_pos _
  have l1 : m / 2 ^ (32 - n) < 2 ^ n := by rw [Nat.div_lt_iff_lt_mul pm, ← e32]; exact hm
  have l2 : k / 2 ^ (32 - n) < 2 ^ n := by rw [Nat.div_lt_iff_lt_mul pm, ← e32]; exact hk
  have h' : 2 ^ n * (m % 2 ^ (32 - n)) + m / 2 ^ (32 - n) = 2 ^ n * (k % 2 ^ (32 - n)) + k / 2 ^ (32 - n) := by omega
  have pn : 0 < 2 ^ n := Nat.two_pow_pos n
  have hm1 := congrArg (· % 2 ^ n) h'
  simp only [Nat.mul_add_mod, Nat.mod_eq_of_lt l1, Nat.mod_eq_of_lt l2] at hm1
  have hd1 := congrArg (· / 2 ^ n) h'
  simp only [Nat.mul_add_div pn, Nat.div_eq_of_lt l1, Nat.div_eq_of_lt l2, Nat.add_zero] at hd1
  have a1 := Nat.div_add_mod m (2 ^ (32 - n))
  have a2 := Nat.div_add_mod k (2 ^ (32 - n))
  rw [hm1, hd1] at a1
  rw [← a1, a2]
theorem qr_inj {a b c d a' b' c' d' : Int} (ha : 0 ≤ a ∧ a < 4294967296) (hb : 0 ≤ b ∧ b < 4294967296) (hc : 0 ≤ c ∧ c < 4294967296) (hd : 0 ≤ d ∧ d < 4294967296)
    (ha' : 0 ≤ a' ∧ a' < 4294967296) (hb' : 0 ≤ b' ∧ b' < 4294967296) (hc' : 0 ≤ c' ∧ c' < 4294967296) (hd' : 0 ≤ d' ∧ d' < 4294967296)
    (e1 : (qr a b c d).a = (qr a' b' c' d').a) (e2 : (qr a b c d).b = (qr a' b' c' d').b) (e3 : (qr a b c d).c = (qr a' b' c' d').c) (e4 : (qr a b c d).d = (qr a' b' c' d').d) : a = a' ∧ b = b' ∧ c = c' ∧ d = d' := by
  simp only [qr] at e1 e2 e3 e4
  have k1 := rotl_inj (bXor_range _ _) (bXor_range _ _) (by decide) (by decide) e2
  rw [e3] at k1
  have r1 := bXor_inj (rotl_range _ _) (rotl_range _ _) (w32_range _) k1
  rw [e4] at e3
  have c1 := w32_add_inj (w32_range _) (w32_range _) e3
  have k2 := rotl_inj (bXor_range _ _) (bXor_range _ _) (by decide) (by decide) e4
  rw [e1] at k2
  have r := bXor_inj (rotl_range _ _) (rotl_range _ _) (w32_range _) k2
  rw [r1] at e1
  have a1 := w32_add_inj (w32_range _) (w32_range _) e1
  have k3 := rotl_inj (bXor_range _ _) (bXor_range _ _) (by decide) (by decide) r1
  rw [c1] at k3
  have hb1 := bXor_inj hb hb' (w32_range _) k3
  rw [r] at c1
  have hc1 := w32_add_inj hc hc' c1
  have k4 := rotl_inj (bXor_range _ _) (bXor_range _ _) (by decide) (by decide) r
  rw [a1] at k4
  have hd1 := bXor_inj hd hd' (w32_range _) k4
  rw [hb1] at a1
  have ha1 := w32_add_inj ha ha' a1
  exact ⟨ha1, hb1, hc1, hd1⟩
end Go.Proofs.YtblfbanfepocnaaDoor
