import Derived.Test.YtamkmafmhglfkaaW26d
namespace Go.Proofs.Ytamkmafmhglfkaa
open Go.Sx Go.RowKit

def l4 (a b c d : Int) : Nat → Int := fun i => [a, b, c, d].getD i 0
theorem arr4 (a b c d : Int) : arrN .i64 4 (l4 a b c d) = #[.int .i64 a, .int .i64 b, .int .i64 c, .int .i64 d] := rfl
theorem lvOk_iff (a b c d : Int) : lvOk (l4 a b c d) ↔ (0 ≤ a ∧ a < 16) ∧ (0 ≤ b ∧ b < 16) ∧ (0 ≤ c ∧ c < 16) ∧ (0 ≤ d ∧ d < 16) := by
  constructor
  · intro h; exact ⟨h 0 (by decide), h 1 (by decide), h 2 (by decide), h 3 (by decide)⟩
  · rintro ⟨h0, h1, h2, h3⟩ i hi
    rcases (show i = 0 ∨ i = 1 ∨ i = 2 ∨ i = 3 by omega) with rfl | rfl | rfl | rfl
    · exact h0
    · exact h1
    · exact h2
    · exact h3
theorem or_nib : ∀ x : Nat, x < 16 → ∀ y : Nat, y < 16 → (x * 16) ||| y = 16 * x + y := by decide +kernel
theorem or_six : ∀ x : Nat, x < 4 → ∀ y : Nat, y < 64 → (x * 64) ||| y = 64 * x + y := by decide +kernel
theorem nib {x y : Int} (hx : 0 ≤ x ∧ x < 16) (hy : 0 ≤ y ∧ y < 16) : IntKind.wrap .u8 (bOr .i64 (IntKind.wrap .i64 (x * 2 ^ 4)) y) = 16 * x + y := by
  obtain ⟨m, rfl⟩ := natOf hx.1
  obtain ⟨k, rfl⟩ := natOf hy.1
  rw [wrap_id _ (by omega), show (m : Int) * 2 ^ 4 = ((m * 16 : Nat) : Int) by omega, bOr_nat .i64 _ _ (by show _ < 2 ^ 64; omega) (by show _ < 2 ^ 64; omega), or_nib m (by omega) k (by omega), wrap_id _ (by omega), IntWalk.u8_in _ (by omega)]
  omega
theorem six {x : Nat} {y : Int} (hx : x < 4) (hy : 0 ≤ y ∧ y < 16) : IntKind.wrap .u8 (bOr .i64 (IntKind.wrap .i64 ((x : Int) * 2 ^ 6)) y) = 64 * x + y := by
  obtain ⟨k, rfl⟩ := natOf hy.1
  rw [wrap_id _ (by omega), show (x : Int) * 2 ^ 6 = ((x * 64 : Nat) : Int) by omega, bOr_nat .i64 _ _ (by show _ < 2 ^ 64; omega) (by show _ < 2 ^ 64; omega), or_six x hx k (by omega), wrap_id _ (by omega), IntWalk.u8_in _ (by omega)]
  omega

section
variable {x0 x1 x2 x3 room : Int} {w : World}
theorem encode_ok : Calls Try.prog N_buffer_Encode #[.agg #[.int .i64 x0, .int .i64 x1, .int .i64 x2, .int .i64 x3], .int .i64 room] w
    (SecOut w (encC (l4 x0 x1 x2 x3) room) (encB (l4 x0 x1 x2 x3) room) (encE (l4 x0 x1 x2 x3) room)) := by
  apply F_buffer_Encode_ok
  unfold F_buffer_Encode
  intro w1
  have hW1 : Blk w1 w.heap.size Ty_api_Waiting #[.int .i64 x0, .int .i64 x1, .int .i64 x2, .int .i64 x3] := Blk.new w _ _
  have b1 : Below w.heap.size w w1 := (Below.refl _ _).alloc (Nat.le_refl _) _
  have hs1 : w1.heap.size = w.heap.size + 1 := by simp [w1]
  clear_value w1
  intro w2
  have hW2 : Blk w2 w.heap.size Ty_api_Waiting [Value.int .i64 x0, .int .i64 x1, .int .i64 x2, .int .i64 x3].toArray := hW1.alloc _
  have hR2 : Blk w2 w1.heap.size Ty_api_Section #[.int .i64 0, .slice none 0 0] := Blk.new w1 _ _
  have b2 : Below w.heap.size w w2 := b1.alloc (by omega) _
  have hs2 : w2.heap.size = w.heap.size + 2 := by simp [w2, hs1]
  clear_value w2
  refine ⟨_, _, _, _, blk_cellsAll hW2, ?_⟩
  intro w3
  have hR3 : Blk w3 w1.heap.size Ty_api_Section #[.int .i64 0, .slice none 0 0] := hR2.alloc _
  have hL3 : Blk w3 w2.heap.size Ty_4_int #[.int .i64 0, .int .i64 0, .int .i64 0, .int .i64 0] := Blk.new w2 _ _
  have b3 : Below w.heap.size w w3 := b2.alloc (by omega) _
  clear_value w3
  refine blk_storeAll hL3 rfl rfl fun w4 hL4 t4 => ?_
  have hR4 := hR3.but t4 (by omega)
  have b4 := b3.but t4 (by omega)
  have hL4' : Blk w4 w2.heap.size Ty_4_int (arrN .i64 4 (l4 x0 x1 x2 x3)) := hL4
  -- a result
  have out : ∀ {w' : World} {cs : Array Value} {ch : Int} {a : Option Addr} {n c : Nat} {bs : List Int} {E : Int}, Blk w' w1.heap.size Ty_api_Section cs → cs.size = 2 → Below w.heap.size w w' → SlR (IntC .u8) 1 w' a bs → (∀ p, a = some p → bs ≠ [] → p.block ≠ w1.heap.size) → bs.length = n →
      encC (l4 x0 x1 x2 x3) room = ch → encB (l4 x0 x1 x2 x3) room = bs → encE (l4 x0 x1 x2 x3) room = E →
      sxStore w' (nb w1) 0 [.int .i64 ch, .slice a n c] fun w10 => ∃ r_0 : Int, ∃ (ra : Option Addr) (rl rc : Nat), cellsAt w10 (nb w1) 0 [.int .i64 r_0, .slice ra rl rc] ∧
        SecOut w (encC (l4 x0 x1 x2 x3) room) (encB (l4 x0 x1 x2 x3) room) (encE (l4 x0 x1 x2 x3) room) (.returned (.tuple #[.agg #[.int .i64 r_0, .slice ra rl rc], .int .i64 E])) w10 := by
    intro w' cs ch a n c bs E hB hsz hb hs hne hn h1 h2 h3
    refine blk_storeAll hB (by simp [hsz]) rfl fun w10 hB10 t10 => ⟨_, _, _, _, blk_cellsAll hB10, ?_⟩
    rw [h1, h2, h3]
    refine ⟨a, c, by rw [hn], ?_, hb.but t10 (by omega)⟩
    rcases hs with rfl | ⟨p, rfl, hp⟩
    · exact .inl rfl
    · refine .inr ⟨p, rfl, fun i hi => ?_⟩
      have hpb := hne p rfl (by intro h; subst h; simp at hi)
      exact (t10.cell (by rw [add_block]; exact hpb)).trans (hp i hi)
  refine ⟨fun w9 => w9 = w4 ∧ lvOk (l4 x0 x1 x2 x3), ?_, ?_⟩
  · rintro _ w9 ⟨rfl, hok⟩
    obtain ⟨k0, k1, k2, k3⟩ := (lvOk_iff x0 x1 x2 x3).1 hok
    intro x
    refine bsplit_dec (fun hr => ?_) (fun hr => ?_)
    · have hE : encE (l4 x0 x1 x2 x3) room = 15 := by unfold encE; rw [if_neg (by simpa using hok), if_pos hr]
      exact out hR4 rfl b4 .nil (fun p h => by cases h) rfl (by unfold encC; rw [if_pos (by omega)]) (by unfold encB; rw [if_pos (by omega)]) hE
    have hE : encE (l4 x0 x1 x2 x3) room = 0 := by unfold encE; rw [if_neg (by simpa using hok), if_neg hr]
    intro x1'
    refine bsplit_intro (fun h3 => ?_) (fun h3 => ?_)
    · have h3 : room = 3 := by simpa [x1'] using h3
      refine ⟨fun best i => ((4 - i).toNat, fun w11 => ∃ k : Nat, i = k ∧ k ≤ 4 ∧ best = (bst (l4 x0 x1 x2 x3) k : Nat) ∧ Blk w11 w2.heap.size Ty_4_int (arrN .i64 4 (l4 x0 x1 x2 x3)) ∧ Blk w11 w1.heap.size Ty_api_Section #[.int .i64 0, .slice none 0 0] ∧ Below w.heap.size w w11), ⟨0, rfl, by omega, rfl, hL4', hR4, b4⟩, ?_⟩
      rintro _ best i w11 ⟨k, rfl, hk4, rfl, hL11, hR11, b11⟩
      have hbl := bst_lt (l4 x0 x1 x2 x3) k hk4
      refine bsplit_dec (fun hlt => ?_) (fun hge => ?_)
      · have hlt : k < 4 := by omega
        intro w12
        have hL12 : Blk w12 w2.heap.size Ty_4_int (arrN .i64 4 (l4 x0 x1 x2 x3)) := hL11
        have hR12 : Blk w12 w1.heap.size Ty_api_Section #[.int .i64 0, .slice none 0 0] := hR11
        have b12 : Below w.heap.size w w12 := b11.drew
        clear_value w12
        refine ⟨⟨by omega, by omega⟩, l4 x0 x1 x2 x3 k, by rw [nb_add, Int.toNat_natCast, Nat.mul_one]; exact hL12.cell0 k (arrN_get hlt), ⟨by omega, by omega⟩, l4 x0 x1 x2 x3 (bst (l4 x0 x1 x2 x3) k), by rw [nb_add, Int.toNat_natCast, Nat.mul_one]; exact hL12.cell0 _ (arrN_get hbl), ?_⟩
        rw [wrap_id ((k : Int) + 1) (by omega)]
        refine bsplit_dec (fun hgt => ?_) (fun hle => ?_)
        · exact ⟨⟨k + 1, by omega, by omega, by simp only [bst]; rw [if_pos hgt], hL12, hR12, b12⟩, by simp; omega⟩
        · exact ⟨⟨k + 1, by omega, by omega, by simp only [bst]; rw [if_neg hle], hL12, hR12, b12⟩, by simp; omega⟩
      · obtain rfl : k = 4 := by omega
        have hv := hok _ hbl
        refine ⟨⟨by omega, by omega⟩, l4 x0 x1 x2 x3 (bst (l4 x0 x1 x2 x3) 4), by rw [nb_add, Int.toNat_natCast, Nat.mul_one]; exact hL11.cell0 _ (arrN_get hbl), ?_⟩
        rw [six hbl hv]
        intro w13
        have hd : SlR (IntC .u8) 1 w13 (some (nb w11)) [64 * (bst (l4 x0 x1 x2 x3) 4 : Int) + l4 x0 x1 x2 x3 (bst (l4 x0 x1 x2 x3) 4)] := by
          refine .inr ⟨_, rfl, fun i hi => ?_⟩
          have : i = 0 := by simp at hi; omega
          subst this
          exact (Blk.new w11 Ty_uint8 _).cell0 0 rfl
        have hR13 : Blk w13 w1.heap.size Ty_api_Section #[.int .i64 0, .slice none 0 0] := hR11.alloc _
        have b13 : Below w.heap.size w w13 := b11.alloc (by have := hR11.lt; omega) _
        clear_value w13
        exact out hR13 rfl b13 hd (fun p h _ => by injection h with h; subst h; have := hR11.lt; show w11.heap.size ≠ _; omega) rfl (by unfold encC; rw [if_neg (by omega), if_pos h3]) (by unfold encB; rw [if_neg (by omega), if_pos h3]) hE
    · have h3 : room ≠ 3 := by simpa [x1'] using h3
      refine ⟨x0, hL4.cell0 0 rfl, x1, by rw [nb_add]; exact hL4.cell0 1 rfl, x2, by rw [nb_add]; exact hL4.cell0 2 rfl, x3, by rw [nb_add]; exact hL4.cell0 3 rfl, ?_⟩
      rw [nib k0 k1, nib k2 k3]
      intro w15
      have hd : SlR (IntC .u8) 1 w15 (some (nb w9)) [16 * x0 + x1, 16 * x2 + x3] := by
        refine .inr ⟨_, rfl, fun i hi => ?_⟩
        have hB := Blk.new w9 Ty_uint8 #[.int .u8 (16 * x0 + x1), .int .u8 (16 * x2 + x3)]
        show World.cell? _ _ = _
        rw [nb_add, Nat.mul_one]
        rcases (show i = 0 ∨ i = 1 by simp at hi; omega) with rfl | rfl
        · exact hB.cell0 0 rfl
        · exact hB.cell0 1 rfl
      have hR15 : Blk w15 w1.heap.size Ty_api_Section #[.int .i64 0, .slice none 0 0] := hR4.alloc _
      have b15 : Below w.heap.size w w15 := b4.alloc (by have := hR4.lt; omega) _
      clear_value w15
      exact out hR15 rfl b15 hd (fun p h _ => by injection h with h; subst h; have := hR4.lt; show w9.heap.size ≠ _; omega) rfl (by unfold encC; rw [if_neg (by omega), if_neg h3]) (by unfold encB; rw [if_neg (by omega), if_neg h3]; rfl) hE
  · have hxs : SlR (IntC .i64) 1 w4 (some (nb w2)) [x0, x1, x2, x3] := by
      refine .inr ⟨_, rfl, fun i hi => ?_⟩
      show World.cell? _ _ = _
      rw [nb_add, Nat.mul_one]
      simp at hi
      rcases (show i = 0 ∨ i = 1 ∨ i = 2 ∨ i = 3 by omega) with rfl | rfl | rfl | rfl
      · exact hL4.cell0 0 rfl
      · exact hL4.cell0 1 rfl
      · exact hL4.cell0 2 rfl
      · exact hL4.cell0 3 rfl
    refine Calls.mono (min_ok (a := some (nb w2)) (xs := [x0, x1, x2, x3]) (c := 4) hxs (by simp) (by simp)) ?_
    rintro _ w5 ⟨⟨m, rfl, hm, hle⟩, rfl⟩
    refine ⟨m, rfl, bsplit_dec (fun hlt => ?_) (fun hge => ?_)⟩
    · have hno : ¬ lvOk (l4 x0 x1 x2 x3) := fun h => by
        rw [lvOk_iff] at h
        simp at hm; omega
      have hE : encE (l4 x0 x1 x2 x3) room = 1 := by unfold encE; rw [if_pos hno]
      exact out hR4 rfl b4 .nil (fun p h => by cases h) rfl (by unfold encC; rw [if_pos (by omega)]) (by unfold encB; rw [if_pos (by omega)]) hE
    refine Calls.mono (max_ok (a := some (nb w2)) (xs := [x0, x1, x2, x3]) (c := 4) hxs (by simp) (by simp)) ?_
    rintro _ w7 ⟨⟨m2, rfl, hm2, hle2⟩, rfl⟩
    refine ⟨m2, rfl, bsplit_dec (fun hge2 => ?_) (fun hlt2 => ?_)⟩
    · have hno : ¬ lvOk (l4 x0 x1 x2 x3) := fun h => by
        rw [lvOk_iff] at h
        simp at hm2; omega
      have hE : encE (l4 x0 x1 x2 x3) room = 1 := by unfold encE; rw [if_pos hno]
      exact out hR4 rfl b4 .nil (fun p h => by cases h) rfl (by unfold encC; rw [if_pos (by omega)]) (by unfold encB; rw [if_pos (by omega)]) hE
    · refine ⟨rfl, (lvOk_iff _ _ _ _).2 ?_⟩
      have a0 := hle x0 (by simp); have a1 := hle x1 (by simp); have a2 := hle x2 (by simp); have a3 := hle x3 (by simp)
      have c0 := hle2 x0 (by simp); have c1 := hle2 x1 (by simp); have c2 := hle2 x2 (by simp); have c3 := hle2 x3 (by simp)
      omega
end
end Go.Proofs.Ytamkmafmhglfkaa
