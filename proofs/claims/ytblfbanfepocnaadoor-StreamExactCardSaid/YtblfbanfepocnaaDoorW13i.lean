import Derived.Test.YtblfbanfepocnaaDoorW13g
import Derived.Test.YtblfbanfepocnaaDoorW13h
namespace Go.Proofs.YtblfbanfepocnaaDoor
open Go.Sx Go.RowKit

section
variable {ka0 ba : Option Addr} {kc0 bc : Nat} {key b : List Int} {n0 n1 n2 n3 n4 : Int} {w : World}
theorem law_exact (hkey : SlR (IntC .u8) 1 w ka0 key) (hkc0 : key.length ≤ kc0) (hb : SlR (IntC .u8) 1 w ba b) (hT : LaneT w) :
    Calls Tryd.prog N_law13_StreamExact #[.slice ka0 key.length kc0, .slice ba b.length bc, .agg #[.int .i64 n0, .int .i64 n1, .int .i64 n2, .int .i64 n3, .int .i64 n4]] w fun e w' => e = .returned (.bool true) ∧ Below w.heap.size w w' := by
  apply F_law13_StreamExact_ok
  unfold F_law13_StreamExact
  intro w1
  have hB : Blk w1 w.heap.size Ty_5_int #[.int .i64 n0, .int .i64 n1, .int .i64 n2, .int .i64 n3, .int .i64 n4] := Blk.new w _ _
  have b1 : Below w.heap.size w w1 := (Below.refl _ _).alloc (Nat.le_refl _) _
  clear_value w1
  refine bsplit_dec (fun _ => ?_) (fun hl => ?_)
  · refine (awake_ok w1 (hT.below b1)).mono ?_
    rintro _ w2 ⟨rfl, b2⟩
    exact ⟨_, rfl, rfl, below_step b1 (Nat.le_refl _) b2⟩
  intro w3
  have hB3 : Blk w3 w.heap.size Ty_5_int #[.int .i64 n0, .int .i64 n1, .int .i64 n2, .int .i64 n3, .int .i64 n4] := hB
  have b3 : Below w.heap.size w w3 := b1.drew
  clear_value w3
  refine ⟨(· < w3.heap.size), hB3.lt, _, hB3.cell0 0 rfl, by rw [add_block]; exact hB3.lt, _, by rw [nb_add]; exact hB3.cell0 1 rfl, ?_⟩
  refine (filled_ex 32 (by decide) n0 w3).mono ?_
  rintro _ w4 ⟨ka, kc, K, rfl, lk, hk4, ck, b4⟩
  refine ⟨_, _, _, rfl, b4.keeps, ?_⟩
  refine (filled_ex 12 (by decide) n1 w4).mono ?_
  rintro _ w5 ⟨na, nc, N, rfl, ln, hn5, cn, b5⟩
  have b35 := below_step b4 (Nat.le_refl _) b5
  refine ⟨_, _, _, rfl, b35.keeps, ?_⟩
  have B5 := below_step b3 (Nat.le_refl _) b35
  have hB5 := (hB3.below b4 hB3.lt).below b5 (by have := hB3.lt; have := b4.size; omega)
  have lt5 : w.heap.size < w5.heap.size := hB5.lt
  refine ⟨n1, by rw [nb_add]; exact hB5.cell0 1 rfl, n2, by rw [nb_add]; exact hB5.cell0 2 rfl, n3, by rw [nb_add]; exact hB5.cell0 3 rfl, n4, by rw [nb_add]; exact hB5.cell0 4 rfl, ?_⟩
  intro w6
  have hX6 : Blk w6 w5.heap.size Ty_4_int #[.int .i64 0, .int .i64 0, .int .i64 0, .int .i64 0] := Blk.new w5 _ _
  have hB6 : Blk w6 w.heap.size Ty_5_int #[.int .i64 n0, .int .i64 n1, .int .i64 n2, .int .i64 n3, .int .i64 n4] := hB5.alloc _
  have b6 : Below w5.heap.size w5 w6 := (Below.refl _ _).alloc (Nat.le_refl _) _
  clear_value w6
  refine blk_storeAll hX6 rfl rfl fun w7 hX7 t7 => ?_
  have b7 := b6.but t7 (Nat.le_refl _)
  have hB7 := hB6.but t7 (by omega)
  have lt7 : w5.heap.size < w7.heap.size := hX7.lt
  intro w8
  have hS8 : Blk w8 w7.heap.size Ty_2_S_uint8 #[.slice none 0 0, .slice none 0 0] := Blk.new w7 _ _
  have hX8 : Blk w8 w5.heap.size Ty_4_int [Value.int .i64 n1, .int .i64 n2, .int .i64 n3, .int .i64 n4].toArray := hX7.alloc _
  have hB8 : Blk w8 w.heap.size Ty_5_int #[.int .i64 n0, .int .i64 n1, .int .i64 n2, .int .i64 n3, .int .i64 n4] := hB7.alloc _
  have b8 : Below w5.heap.size w5 w8 := b7.alloc (by omega) _
  clear_value w8
  refine blk_storeAll hS8 rfl rfl fun w9 hS9 t9 => ?_
  have b9 := b8.but t9 (by omega)
  have hX9 := hX8.but t9 (by omega)
  have hB9 := hB8.but t9 (by omega)
  have B9 := below_step B5 (Nat.le_refl _) b9
  have hk9 := (hk4.below b5).below b9
  have hn9 := hn5.below b9
  have hkey9 := hkey.below B9
  have hb9 := hb.below B9
  have hT9 := hT.below B9
  have lt9 : w7.heap.size < w9.heap.size := hS9.lt
  refine ⟨fun i => ((2 - i).toNat, fun w10 => ∃ k : Nat, i = k ∧ k ≤ 2 ∧ Below w9.heap.size w9 w10), ⟨0, rfl, by omega, .refl _ _⟩, ?_⟩
  rintro _ i w10 ⟨k, rfl, hk2, b10⟩
  refine bsplit_dec (fun hlt => ?_) (fun hge => ?_)
  · have hlt : k < 2 := by omega
    refine ⟨n2, by rw [nb_add]; exact (hB9.below b10 (by omega)).cell0 2 rfl, fun c w12 => Below w9.heap.size w9 w12, ?_, ?_⟩
    · rintro _ c w12 b12
      obtain ⟨xa, xc, xs, hcell, hxs, hxc⟩ : ∃ (xa : Option Addr) (xc : Nat) (xs : List Int), (∀ w', Below w9.heap.size w9 w' → w'.cell? ((nb w7).add ((k : Int).toNat * 1)) = some (.slice xa xs.length xc)) ∧ SlR (IntC .u8) 1 w9 xa xs ∧ xs.length ≤ xc := by
        rcases (show k = 0 ∨ k = 1 by omega) with rfl | rfl
        · refine ⟨ka0, kc0, key, fun w' hw' => (hS9.below hw' hS9.lt).cell0 0 rfl, hkey9, hkc0⟩
        · refine ⟨ka, kc, K, fun w' hw' => ?_, hk9, by omega⟩
          rw [nb_add, lk]
          exact (hS9.below hw' hS9.lt).cell0 1 rfl
      refine ⟨⟨by omega, by omega⟩, _, _, _, hcell w12 b12, ?_⟩
      have X1 := Block_ok (kc := xc) (nc := nc) (ctr := c) (hxs.below b12) (hn9.below b12) hxc (by omega) (hT9.below b12)
      rw [ln] at X1
      refine X1.mono ?_
      intro _ w13 h13
      obtain ⟨a1, c1, rfl, o1, _, k13⟩ := h13.sl
      have b13 := below_step b12 (Nat.le_refl _) k13
      refine ⟨_, _, _, _, rfl, ⟨by omega, by omega⟩, _, _, _, hcell w13 b13, ?_⟩
      have X2 := refBlock_ok (kc := xc) (nc := nc) (ctr := c) (hxs.below b13) (hn9.below b13) hxc (by omega)
      rw [ln] at X2
      refine X2.mono ?_
      intro _ w14 h14
      obtain ⟨a2, c2, rfl, o2, _, k14⟩ := h14.sl
      have b14 := below_step b13 (Nat.le_refl _) k14
      refine ⟨_, _, _, _, rfl, ⟨by omega, by omega⟩, _, _, _, hcell w14 b14, ?_⟩
      have X3 := xor_ok (kc := xc) (nc := nc) (bc := bc) (hxs.below b14) (hn9.below b14) (hb9.below b14) hxc (by omega) (hT9.below b14)
      rw [ln] at X3
      refine X3.mono ?_
      intro _ w15 h15
      obtain ⟨a3, c3, rfl, o3, _, k15⟩ := h15.sl
      have b15 := below_step b14 (Nat.le_refl _) k15
      refine ⟨_, _, _, _, rfl, ⟨by omega, by omega⟩, _, _, _, hcell w15 b15, ?_⟩
      have X4 := refXor_ok (kc := xc) (nc := nc) (bc := bc) (hxs.below b15) (hn9.below b15) (hb9.below b15) hxc (by omega)
      rw [ln] at X4
      refine X4.mono ?_
      intro _ w16 h16
      obtain ⟨a4, c4, rfl, o4, _, k16⟩ := h16.sl
      have b16 := below_step b15 (Nat.le_refl _) k16
      refine ⟨_, _, _, _, rfl, bsplit_intro (fun h => by simp at h) (fun _ => ?_)⟩
      refine (same_ok (((o1.below k14).below k15).below k16) ((o2.below k15).below k16) (blkR_bytes _ _ _) (blkR_bytes _ _ _)).mono ?_
      rintro _ w17 ⟨rfl, rfl⟩
      refine ⟨_, rfl, bsplit_intro (fun h => by simp at h) (fun _ => ?_)⟩
      refine bsplit_intro (fun h => by simp at h) (fun _ => ?_)
      refine (same_ok (o3.below k16) o4 (xorR_bytes _ _ _) (xorR_bytes _ _ _)).mono ?_
      rintro _ w18 ⟨rfl, rfl⟩
      refine ⟨_, rfl, bsplit_intro (fun h => by simp at h) (fun _ => ?_)⟩
      intro i4
      have e4 : i4 = ((k + 1 : Nat) : Int) := by simp only [i4]; rw [wrap_id _ (by omega)]; omega
      rw [e4]
      exact ⟨⟨k + 1, rfl, by omega, b16⟩, by simp; omega⟩
    · refine bsplit_intro (fun _ => ?_) (fun _ => b10)
      refine ⟨n2, by rw [nb_add]; exact (hB9.below b10 (by omega)).cell0 2 rfl, ?_⟩
      refine (mod_ok _ _ (by decide) w10).mono ?_
      rintro _ w11 ⟨rfl, rfl⟩
      exact ⟨_, rfl, b10⟩
  · have Y1 := xor_ok (kc := kc) (nc := kc0) (bc := bc) (hk9.below b10) (hkey9.below b10) (hb9.below b10) (by omega) hkc0 (hT9.below b10)
    rw [lk] at Y1
    refine Y1.mono ?_
    intro _ w19 h19
    obtain ⟨a1, c1, rfl, o1, _, k19⟩ := h19.sl
    have b19 := below_step b10 (Nat.le_refl _) k19
    refine ⟨_, _, _, _, rfl, ?_⟩
    have Y2 := refXor_ok (kc := kc) (nc := kc0) (bc := bc) (hk9.below b19) (hkey9.below b19) (hb9.below b19) (by omega) hkc0
    rw [lk] at Y2
    refine Y2.mono ?_
    intro _ w20 h20
    obtain ⟨a2, c2, rfl, o2, _, k20⟩ := h20.sl
    have b20 := below_step b19 (Nat.le_refl _) k20
    refine ⟨_, _, _, _, rfl, ?_⟩
    intro w21
    have b21 : Below w9.heap.size w9 w21 := b20.drew
    clear_value w21
    have hX21 := hX9.below b21 (by omega)
    refine ⟨(· < w21.heap.size), ?_⟩
    refine (awake_ok w21 (hT9.below b21)).mono ?_
    rintro _ w22 ⟨rfl, k22⟩
    refine ⟨_, rfl, k22.keeps, bsplit_intro (fun _ => ?_) (fun h => by cases h)⟩
    refine bsplit_intro (fun _ => ?_) (fun h => by simp at h)
    refine ⟨hX21.lt, _, _, _, _, blk_cellsAll hX21, hX21.lt, _, _, _, _, blk_cellsAll hX21, ?_⟩
    refine (Quarter_ok _ _ _ _ w22).mono ?_
    rintro _ w23 ⟨rfl, k23⟩
    have k2123 := below_step k22 (Nat.le_refl _) k23
    refine ⟨_, _, _, _, rfl, k2123.keeps, ?_⟩
    refine (refQuarter_ok _ _ _ _ w23).mono ?_
    rintro _ w24 ⟨rfl, k24⟩
    have k2124 := below_step k2123 (Nat.le_refl _) k24
    refine ⟨_, _, _, _, rfl, k2124.keeps, ?_⟩
    refine eqP_arr (xs := (qi n1 n2 n3 n4).list) (ys := (qi n1 n2 n3 n4).list) (n := 4) (e := Ty_int) (k' := .i64) (by kernel_rfl) (by kernel_rfl) (by kernel_rfl) (by kernel_rfl) (by kernel_rfl) rfl rfl ?_
    exact ⟨by simp, below_step B9 (Nat.le_refl _) (below_step b21 (Nat.le_refl _) k2124)⟩
end
end Go.Proofs.YtblfbanfepocnaaDoor
