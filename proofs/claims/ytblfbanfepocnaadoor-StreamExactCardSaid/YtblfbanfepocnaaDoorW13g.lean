import Derived.Test.YtblfbanfepocnaaDoorW13f
namespace Go.Proofs.YtblfbanfepocnaaDoor
open Go.Sx Go.RowKit

theorem xorE_ok {key nonce b : List Int} (h1 : key.length = 32) (h2 : nonce.length = 12) (h3 : b.length ≤ 4096) : xorE key nonce b = 0 ∧ xorR key nonce b = xorL key nonce b b.length := by
  have : xorE key nonce b = 0 := by unfold xorE; rw [if_neg (by omega), if_neg (by omega)]
  exact ⟨this, by unfold xorR; rw [if_pos this]⟩

theorem filled_ex (n : Nat) (hn : n ≤ 1000) (seed : Int) (w : World) :
    Calls Tryd.prog N_made_Filled #[.int .i64 n, .int .i64 seed] w fun e w' => ∃ a' c' L, e = .returned (.slice a' n c') ∧ L.length = n ∧ SlR (IntC .u8) 1 w' a' L ∧ n ≤ c' ∧ Below w.heap.size w w' :=
  (filled_ok n hn seed w).mono fun _ _ ⟨a', c', he, ho, hb⟩ => ⟨a', c', _, he, fillL_length seed n, ho.sl, ho.cap, hb⟩

section
variable {ba : Option Addr} {bc : Nat} {b : List Int} {n0 n1 n2 : Int} {w : World}
theorem law_twice (hb : SlR (IntC .u8) 1 w ba b) (hy : Bytes b) (hbc : b.length ≤ bc) (hT : LaneT w) :
    Calls Tryd.prog N_law13_StreamTwice #[.slice ba b.length bc, .agg #[.int .i64 n0, .int .i64 n1, .int .i64 n2]] w fun e w' => e = .returned (.bool true) ∧ Below w.heap.size w w' := by
  apply F_law13_StreamTwice_ok
  unfold F_law13_StreamTwice
  intro w1
  have hB : Blk w1 w.heap.size Ty_3_int #[.int .i64 n0, .int .i64 n1, .int .i64 n2] := Blk.new w _ _
  have b1 : Below w.heap.size w w1 := (Below.refl _ _).alloc (Nat.le_refl _) _
  clear_value w1
  refine bsplit_dec (fun _ => ?_) (fun hl => ?_)
  · refine (awake_ok w1 (hT.below b1)).mono ?_
    rintro _ w2 ⟨rfl, b2⟩
    exact ⟨_, rfl, rfl, below_step b1 (Nat.le_refl _) b2⟩
  have hl : b.length ≤ 3000 := by omega
  intro w3
  have hB3 : Blk w3 w.heap.size Ty_3_int #[.int .i64 n0, .int .i64 n1, .int .i64 n2] := hB
  have b3 : Below w.heap.size w w3 := b1.drew
  clear_value w3
  refine ⟨(· < w3.heap.size), hB3.lt, _, hB3.cell0 0 rfl, by rw [add_block]; exact hB3.lt, _, by rw [nb_add]; exact hB3.cell0 1 rfl, ?_⟩
  refine (filled_ex 32 (by decide) n0 w3).mono ?_
  rintro _ w4 ⟨ka, kc, K, rfl, lk, hk4, ck, b4⟩
  refine ⟨_, _, _, rfl, b4.keeps, ?_⟩
  refine (filled_ex 12 (by decide) n1 w4).mono ?_
  rintro _ w5 ⟨na, nc, N, rfl, ln, hn5, cn, b5⟩
  have b35 := below_step b4 (Nat.le_refl _) b5
  refine ⟨_, _, _, rfl, b35.keeps, ?_⟩
  have B5 := below_step b3 (Nat.le_refl _) b35
  have hk5 := hk4.below b5
  obtain ⟨e1, r1⟩ := xorE_ok (b := b) lk ln (by omega)
  have X1 := xor_ok (kc := kc) (nc := nc) (bc := bc) hk5 hn5 (hb.below B5) (by omega) (by omega) (hT.below B5)
  rw [lk, ln, e1, r1] at X1
  refine X1.mono ?_
  intro _ w6 h6
  obtain ⟨xa, xc, rfl, hx6, cx6, b6⟩ := h6.sl
  have B6 := below_step B5 (Nat.le_refl _) b6
  refine ⟨_, _, _, _, rfl, ?_⟩
  have lx := xorL_length K N b b.length
  obtain ⟨e2, r2⟩ := xorE_ok (b := xorL K N b b.length) lk ln (by omega)
  have X2 := xor_ok (kc := kc) (nc := nc) (bc := xc) (hk5.below b6) (hn5.below b6) hx6 (by omega) (by omega) (hT.below B6)
  rw [e2, r2, lk, ln, lx] at X2
  rw [lx]
  refine X2.mono ?_
  rw [xorL_twice hy]
  intro _ w7 h7
  obtain ⟨ya, yc, rfl, hy7, cy7, b7⟩ := h7.sl
  have B7 := below_step B6 (Nat.le_refl _) b7
  refine ⟨_, _, _, _, rfl, ?_⟩
  have hB7 := (((hB3.below b4 hB3.lt).below b5 (by have := hB3.lt; have := b4.size; omega)).below b6 (by have := hB3.lt; have := b35.size; omega)).below b7 (by have := hB3.lt; have := b35.size; have := b6.size; omega)
  refine ⟨n2, by rw [nb_add]; exact hB7.cell0 2 rfl, ?_⟩
  rw [wrap_id ((b.length : Int) + 1) (by omega)]
  refine (mod_ok _ _ (by omega) w7).mono ?_
  rintro _ w8 ⟨rfl, rfl⟩
  have hc := modI_range n2 ((b.length : Int) + 1) (by omega)
  obtain ⟨c, hcc⟩ := natOf hc.1
  rw [hcc] at hc ⊢
  refine ⟨_, rfl, ⟨by omega, by omega⟩, ?_⟩
  have hcut := (hb.below B7).cut (m := bc) (l := 0) hbc c
  rw [List.drop_zero] at hcut
  have lc : (b.take c).length = c := by rw [List.length_take]; omega
  obtain ⟨e3, r3⟩ := xorE_ok (b := b.take c) lk ln (by omega)
  have X3 := xor_ok (kc := kc) (nc := nc) (bc := bc - 0) ((hk5.below b6).below b7) ((hn5.below b6).below b7) hcut (by omega) (by omega) (hT.below B7)
  rw [lk, ln, e3, r3, lc, xorL_take (by omega)] at X3
  rw [Int.toNat_natCast, Nat.sub_zero]
  rw [Nat.sub_zero] at X3
  refine X3.mono ?_
  intro _ w9 h9
  obtain ⟨za, zc, rfl, hz9, cz9, b9⟩ := h9.sl
  have B9 := below_step B7 (Nat.le_refl _) b9
  refine ⟨_, _, _, _, rfl, ?_⟩
  refine (awake_ok w9 (hT.below B9)).mono ?_
  rintro _ w10 ⟨rfl, b10⟩
  have B10 := below_step B9 (Nat.le_refl _) b10
  refine ⟨_, rfl, bsplit_intro (fun _ => ?_) (fun h => by cases h)⟩
  refine bsplit_intro (fun _ => ?_) (fun h => by simp at h)
  refine bsplit_intro (fun _ => ?_) (fun h => by simp at h)
  refine bsplit_intro (fun _ => ?_) (fun h => by simp at h)
  refine (same_ok ((hy7.below b9).below b10) (hb.below B10) hy hy).mono ?_
  rintro _ w11 ⟨rfl, rfl⟩
  refine ⟨_, rfl, bsplit_intro (fun _ => ?_) (fun h => by simp at h)⟩
  refine bsplit_intro (fun _ => ?_) (fun h => by simp at h)
  refine ⟨⟨by omega, by omega⟩, ?_⟩
  have hcutx := (((hx6.below b7).below b9).below b10).cut (m := xc) (l := 0) cx6 c
  rw [List.drop_zero] at hcutx
  have lt : ((xorL K N b b.length).take c).length = c := by rw [List.length_take, lx]; omega
  have := same_ok (c1 := zc) (c2 := xc - 0) (hz9.below b10) hcutx ((xorL_bytes _ _ _ _).take c) ((xorL_bytes _ _ _ _).take c)
  rw [lt, Nat.sub_zero] at this
  rw [lt]
  refine this.mono ?_
  rintro _ w12 ⟨rfl, rfl⟩
  exact ⟨_, rfl, by simp, B10⟩

theorem law_blocks (hT : LaneT w) :
    Calls Tryd.prog N_law13_StreamBlocks #[.agg #[.int .i64 n0, .int .i64 n1, .int .i64 n2]] w fun e w' => e = .returned (.bool true) ∧ Below w.heap.size w w' := by
  apply F_law13_StreamBlocks_ok
  unfold F_law13_StreamBlocks
  intro w1 w2
  have hB2 : Blk w2 w.heap.size Ty_3_int #[.int .i64 n0, .int .i64 n1, .int .i64 n2] := Blk.new w _ _
  have b2 : Below w.heap.size w w2 := ((Below.refl _ _).alloc (Nat.le_refl _) _).drew
  clear_value w2
  clear w1
  refine ⟨(· < w2.heap.size), hB2.lt, _, hB2.cell0 0 rfl, by rw [add_block]; exact hB2.lt, _, by rw [nb_add]; exact hB2.cell0 1 rfl, ?_⟩
  refine (filled_ex 32 (by decide) n0 w2).mono ?_
  rintro _ w3 ⟨ka, kc, K, rfl, lk, hk3, ck, b3⟩
  refine ⟨_, _, _, rfl, b3.keeps, ?_⟩
  refine (filled_ex 12 (by decide) n1 w3).mono ?_
  rintro _ w4 ⟨na, nc, N, rfl, ln, hn4, cn, b4⟩
  have b24 := below_step b3 (Nat.le_refl _) b4
  refine ⟨_, _, _, rfl, b24.keeps, by decide, ?_⟩
  have B4 := below_step b2 (Nat.le_refl _) b24
  have hk4 := hk3.below b4
  intro w5
  have hz5 : SlR (IntC .u8) 1 w5 (some (nb w4)) (List.replicate 256 0) := SlR.lit w4 Ty_uint8 _ (made_zero 256)
  have b5 : Below w4.heap.size w4 w5 := (Below.refl _ _).alloc (Nat.le_refl _) _
  clear_value w5
  have B5 := below_step B4 (Nat.le_refl _) b5
  have lz : (List.replicate 256 (0 : Int)).length = 256 := List.length_replicate
  obtain ⟨e1, r1⟩ := xorE_ok (b := List.replicate 256 0) lk ln (by omega)
  have X1 := xor_ok (kc := kc) (nc := nc) (bc := 256) (hk4.below b5) (hn4.below b5) hz5 (by omega) (by omega) (hT.below B5)
  rw [lk, ln, e1, r1, lz] at X1
  refine X1.mono ?_
  intro _ w6 h6
  obtain ⟨xa, xc, rfl, hx6, cx6, b6⟩ := h6.sl
  have B6 := below_step B5 (Nat.le_refl _) b6
  refine ⟨_, _, _, _, rfl, ?_⟩
  have lx := xorL_length K N (List.replicate 256 0) 256
  have hB6 := (((hB2.below b3 hB2.lt).below b4 (by have := hB2.lt; have := b3.size; omega)).below b5 (by have := hB2.lt; have := b24.size; omega)).below b6 (by have := hB2.lt; have := b24.size; have := b5.size; omega)
  refine ⟨n2, by rw [nb_add]; exact hB6.cell0 2 rfl, ?_⟩
  refine (mod_ok _ _ (by decide) w6).mono ?_
  rintro _ w7 ⟨rfl, rfl⟩
  have hc := modI_range n2 4 (by decide)
  obtain ⟨i, hcc⟩ := natOf hc.1
  rw [hcc] at hc ⊢
  refine ⟨_, rfl, ?_⟩
  have hbE : blkE K (i : Int) N = 0 := by unfold blkE; rw [if_neg (by omega), if_neg (by omega), if_neg (by omega)]
  have hbR : blkR K (i : Int) N = blockL K (i : Int) N := by unfold blkR; rw [if_pos hbE]
  have X2 := Block_ok (kc := kc) (nc := nc) (ctr := (i : Int)) ((hk4.below b5).below b6) ((hn4.below b5).below b6) (by omega) (by omega) (hT.below B6)
  rw [lk, ln, hbE, hbR] at X2
  refine X2.mono ?_
  intro _ w8 h8
  obtain ⟨ya, yc, rfl, hy8, cy8, b8⟩ := h8.sl
  have B8 := below_step B6 (Nat.le_refl _) b8
  refine ⟨_, _, _, _, rfl, ?_⟩
  refine (awake_ok w8 (hT.below B8)).mono ?_
  rintro _ w9 ⟨rfl, b9⟩
  have B9 := below_step B8 (Nat.le_refl _) b9
  refine ⟨_, rfl, bsplit_intro (fun _ => ?_) (fun h => by cases h)⟩
  refine bsplit_intro (fun _ => ?_) (fun h => by simp at h)
  refine bsplit_intro (fun _ => ?_) (fun h => by simp at h)
  refine bsplit_intro (fun _ => ?_) (fun h => by rw [lx] at h; simp at h)
  rw [wrap_id (64 * (i : Int)) (by omega), show 64 * (i : Int) + 64 = ((64 * i + 64 : Nat) : Int) by omega, wrap_id ((64 * i + 64 : Nat) : Int) (by omega), show 64 * (i : Int) = ((64 * i : Nat) : Int) by omega, Int.toNat_natCast, Int.toNat_natCast]
  refine ⟨⟨by omega, by omega⟩, ⟨by omega, by omega⟩, ?_⟩
  have hcut := ((hx6.below b8).below b9).cut (m := xc) (l := 64 * i) cx6 64
  rw [xorL_zero i (by omega)] at hcut
  have hbl := blockL_length K (i : Int) N
  have := same_ok (c1 := xc - 64 * i) (c2 := yc) hcut (hy8.below b9) (outL_bytes _ _) (outL_bytes _ _)
  rw [show (blockL K (i : Int) N).length = 64 * i + 64 - 64 * i by omega] at this
  rw [show (blockL K (i : Int) N).length = 64 * i + 64 - 64 * i by omega]
  refine this.mono ?_
  rintro _ w10 ⟨rfl, rfl⟩
  exact ⟨_, rfl, by simp, B9⟩

theorem ctr_at : ∀ r : Nat, r < 4 → ∃ x : Int, (#[(.int .i64 (-1 : Int)), (.int .i64 (0 : Int)), (.int .i64 (4294967295 : Int)), (.int .i64 (4294967296 : Int))] : Array Value)[r * 1]? = some (.int .i64 x) := by
  intro r hr
  rcases (show r = 0 ∨ r = 1 ∨ r = 2 ∨ r = 3 by omega) with rfl | rfl | rfl | rfl <;> exact ⟨_, rfl⟩
theorem law_limits (size counter : Int) (hT : LaneT w) :
    Calls Tryd.prog N_law13_StreamLimits #[.int .i64 size, .int .i64 counter] w fun e w' => e = .returned (.bool true) ∧ Below w.heap.size w w' := by
  apply F_law13_StreamLimits_ok
  unfold F_law13_StreamLimits
  refine (filled_ex 32 (by decide) size w).mono ?_
  rintro _ w1 ⟨ka, kc, K, rfl, lk, hk1, ck, b1⟩
  refine ⟨_, _, _, rfl, ?_⟩
  refine (filled_ex 12 (by decide) counter w1).mono ?_
  rintro _ w2 ⟨na, nc, N, rfl, ln, hn2, cn, b2⟩
  have B2 := below_step b1 (Nat.le_refl _) b2
  refine ⟨_, _, _, rfl, ?_⟩
  have hk2 := hk1.below b2
  refine (mod_ok _ _ (by decide) w2).mono ?_
  rintro _ w3 ⟨rfl, rfl⟩
  have hr := modI_range size 5 (by decide)
  obtain ⟨m, hm⟩ := natOf hr.1
  rw [hm] at hr ⊢
  refine ⟨_, rfl, ?_⟩
  intro n
  have en : n = ((4094 + m : Nat) : Int) := by simp only [n]; rw [wrap_id _ (by omega)]; omega
  clear_value n
  subst en
  refine (mod_ok _ _ (by decide) w3).mono ?_
  rintro _ w4 ⟨rfl, rfl⟩
  have hr1 := modI_range counter 4 (by decide)
  obtain ⟨r, hrr⟩ := natOf hr1.1
  rw [hrr] at hr1 ⊢
  obtain ⟨x, hx⟩ := ctr_at r (by omega)
  refine ⟨_, rfl, ⟨by omega, by omega⟩, x, by rw [Int.toNat_natCast]; exact hx, ⟨by omega, by omega, by omega, by omega⟩, ?_⟩
  rw [Int.toNat_natCast]
  intro w5
  have hz5 : SlR (IntC .u8) 1 w5 (some (nb w4)) (List.replicate (4094 + m) 0) := SlR.lit w4 Ty_uint8 _ (by rw [Nat.mul_one]; exact made_zero _)
  have b5 : Below w4.heap.size w4 w5 := (Below.refl _ _).alloc (Nat.le_refl _) _
  clear_value w5
  have B5 := below_step B2 (Nat.le_refl _) b5
  have lz : (List.replicate (4094 + m) (0 : Int)).length = 4094 + m := List.length_replicate
  have X1 := xor_ok (kc := kc) (nc := nc) (bc := 4094 + m) (hk2.below b5) (hn2.below b5) hz5 (by omega) (by omega) (hT.below B5)
  rw [lk, ln, lz] at X1
  refine X1.mono ?_
  intro _ w6 h6
  obtain ⟨xa, xc, rfl, hx6, cx6, b6⟩ := h6.sl
  have B6 := below_step B5 (Nat.le_refl _) b6
  refine ⟨_, _, _, _, rfl, ?_⟩
  have X2 := Block_ok (kc := kc) (nc := nc) (ctr := x) ((hk2.below b5).below b6) ((hn2.below b5).below b6) (by omega) (by omega) (hT.below B6)
  rw [lk, ln] at X2
  refine X2.mono ?_
  intro _ w7 h7
  obtain ⟨ya, yc, rfl, hy7, cy7, b7⟩ := h7.sl
  have B7 := below_step B6 (Nat.le_refl _) b7
  refine ⟨_, _, _, _, rfl, ?_⟩
  have X3 := refBlock_ok (kc := kc) (nc := nc) (ctr := x) (((hk2.below b5).below b6).below b7) (((hn2.below b5).below b6).below b7) (by omega) (by omega)
  rw [lk, ln] at X3
  refine X3.mono ?_
  intro _ w8 h8
  obtain ⟨za, zc, rfl, hz8, cz8, b8⟩ := h8.sl
  have B8 := below_step B7 (Nat.le_refl _) b8
  refine ⟨_, _, _, _, rfl, ?_⟩
  refine (awake_ok w8 (hT.below B8)).mono ?_
  rintro _ w9 ⟨rfl, b9⟩
  have B9 := below_step B8 (Nat.le_refl _) b9
  refine ⟨_, rfl, bsplit_intro (fun _ => ?_) (fun h => by cases h)⟩
  have key : (((xorE K N (List.replicate (4094 + m) 0) == 0) == decide (((4094 + m : Nat) : Int) ≤ 4096)) = true) ∧
      (((xorE K N (List.replicate (4094 + m) 0) == 0) == (((xorR K N (List.replicate (4094 + m) 0)).length : Int) == ((4094 + m : Nat) : Int))) = true) := by
    by_cases h : 4094 + m ≤ 4096
    · obtain ⟨e1, r1⟩ := xorE_ok (b := List.replicate (4094 + m) 0) lk ln (by omega)
      rw [e1, r1, xorL_length, lz, decide_eq_true (by omega)]
      simp
    · have e1 : xorE K N (List.replicate (4094 + m) 0) = 2 := by unfold xorE; rw [if_neg (by omega), if_pos (by omega)]
      have r1 : xorR K N (List.replicate (4094 + m) 0) = [] := by unfold xorR; rw [if_neg (by omega)]
      rw [e1, r1, decide_eq_false (by omega)]
      refine ⟨rfl, ?_⟩
      have : (((([] : List Int).length : Nat) : Int) == ((4094 + m : Nat) : Int)) = false := by
        rw [beq_eq_false_iff_ne]; simp; omega
      rw [this]; rfl
  refine bsplit_intro (fun _ => ?_) (fun h => by rw [key.1] at h; cases h)
  refine bsplit_intro (fun _ => ?_) (fun h => by rw [key.2] at h; cases h)
  refine bsplit_intro (fun _ => ?_) (fun h => by simp at h)
  refine (same_ok ((hy7.below b8).below b9) (hz8.below b9) (blkR_bytes _ _ _) (blkR_bytes _ _ _)).mono ?_
  rintro _ w10 ⟨rfl, rfl⟩
  exact ⟨_, rfl, by simp, B9⟩
end
end Go.Proofs.YtblfbanfepocnaaDoor
