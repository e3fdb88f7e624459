import Derived.Test.YtblfbanfepocnaaDoorW13b
namespace Go.Proofs.YtblfbanfepocnaaDoor
open Go.Sx Go.RowKit

theorem cellsAt_keep {w w' : World} (h : ∀ p u, w.cell? p = some u → w'.cell? p = some u) : ∀ {vs : List Value} {a : Addr} {i : Nat}, cellsAt w a i vs → cellsAt w' a i vs
  | [], _, _, _ => trivial
  | _ :: _, _, _, hc => ⟨h _ _ hc.1, cellsAt_keep h hc.2⟩
/-- the package's table of lanes -/
def LaneT (w : World) : Prop := cellsAt w ⟨0, 0, none⟩ 0 (laneL.map fun n : Nat => Value.int .i64 (n : Int))
theorem LaneT.below {w w' : World} (h : LaneT w) (hb : Below w.heap.size w w') : LaneT w' := cellsAt_keep (fun _ _ hc => hb.get hc) h
theorem lane_row : ∀ k : Nat, k < 8 → (laneL.map fun n : Nat => Value.int .i64 (n : Int)).toArray.extract (k * 4) (k * 4 + 4) =
    #[.int .i64 (lane (4 * k) : Nat), .int .i64 (lane (4 * k + 1) : Nat), .int .i64 (lane (4 * k + 2) : Nat), .int .i64 (lane (4 * k + 3) : Nat)] := by
  intro k hk
  rcases (show k = 0 ∨ k = 1 ∨ k = 2 ∨ k = 3 ∨ k = 4 ∨ k = 5 ∨ k = 6 ∨ k = 7 by omega) with rfl | rfl | rfl | rfl | rfl | rfl | rfl | rfl <;> rfl
theorem lane4_lt {k : Nat} (hk : k < 8) : lane (4 * k) < 16 ∧ lane (4 * k + 1) < 16 ∧ lane (4 * k + 2) < 16 ∧ lane (4 * k + 3) < 16 :=
  ⟨lane_lt _ (by omega), lane_lt _ (by omega), lane_lt _ (by omega), lane_lt _ (by omega)⟩
theorem wrap4 {k c : Nat} (h : k < 1000) (hc : c < 1000) : IntKind.wrap .i64 ((c : Int) * (k : Int)) = ((c * k : Nat) : Int) := by
  have : c * k ≤ 1000 * 1000 := Nat.mul_le_mul (by omega) (by omega)
  have e : (c : Int) * (k : Int) = ((c * k : Nat) : Int) := by simp
  rw [e, wrap_id _ (by omega)]

section
variable {w w20 : World} {g gl : Nat} {s : St} {k : Nat} {T : TypeId}
/-- four words are set -/
theorem arr_upd4 (s : St) (k : Nat) : ((((arrN .u32 16 s).setIfInBounds (lane (4 * k)) (.int .u32 (laneQ s k).a)).setIfInBounds (lane (4 * k + 1)) (.int .u32 (laneQ s k).b)).setIfInBounds (lane (4 * k + 2)) (.int .u32 (laneQ s k).c)).setIfInBounds (lane (4 * k + 3)) (.int .u32 (laneQ s k).d) = arrN .u32 16 (upd4 s k) := by
  rw [arrN_set, arrN_set, arrN_set, arrN_set]
  rfl
end

section
variable {ka na : Option Addr} {kc nc : Nat} {key nonce : List Int} {ctr : Int} {w : World}
theorem block_ok (hk : SlR (IntC .u8) 1 w ka key) (hn : SlR (IntC .u8) 1 w na nonce) (hkl : key.length = 32) (hnl : nonce.length = 12) (hkc : 32 ≤ kc) (hnc : 12 ≤ nc) (hT : LaneT w) :
    Calls Tryd.prog N_stream_block #[.slice ka key.length kc, .int .i64 ctr, .slice na nonce.length nc] w fun e w' =>
      ∃ a' c', e = .returned (.slice a' 64 c') ∧ OwnI w' w.heap.size Ty_uint8 .u8 a' 64 c' (blockL key ctr nonce) ∧ Below w.heap.size w w' := by
  apply F_stream_block_ok
  unfold F_stream_block
  intro w1
  have hX1 : Blk w1 w.heap.size Ty_16_uint32 (arrN .u32 16 fun _ => 0) := Blk.new w _ _
  have b1 : Below w.heap.size w w1 := (Below.refl _ _).alloc (Nat.le_refl _) _
  have hs1 : w1.heap.size = w.heap.size + 1 := by simp [w1]
  clear_value w1
  refine (first_ok w1).mono ?_
  rintro _ w2 ⟨rfl, b2⟩
  have hs2 := b2.size
  refine ⟨_, _, _, _, rfl, ?_⟩
  intro w3
  have hX3 : Blk w3 w.heap.size Ty_16_uint32 (arrN .u32 16 fun _ => 0) := (hX1.below b2 (by omega)).alloc _
  have hF3 : Blk w3 w2.heap.size Ty_4_uint32 #[.int .u32 0, .int .u32 0, .int .u32 0, .int .u32 0] := Blk.new w2 _ _
  have b3 : Below w.heap.size w w3 := (below_step b1 (Nat.le_refl _) b2).alloc (by omega) _
  have hs3 : w3.heap.size = w2.heap.size + 1 := by simp [w3]
  clear_value w3
  refine blk_storeAll hF3 rfl rfl fun w4 hF4 ht4 => ?_
  have hX4 := hX3.but ht4 (by omega)
  have b4 := b3.but ht4 (by omega)
  have hs4 := ht4.size
  intro w5
  have hX5 : Blk w5 w.heap.size Ty_16_uint32 (arrN .u32 16 fun _ => 0) := hX4
  have hF5 : Blk w5 w2.heap.size Ty_4_uint32 #[.int .u32 1634760805, .int .u32 857760878, .int .u32 2036477234, .int .u32 1797285236] := hF4
  have b5 : Below w.heap.size w w5 := b4.drew
  have hs5 : w5.heap.size = w3.heap.size := by show w4.heap.size = _; omega
  clear_value w5
  refine copy_blk (g := w.heap.size) (o := 0) (a := nb w2) (cs := constL.map (Value.int .u32)) (elem := Ty_uint32) (by kernel_rfl) (by kernel_rfl) hX5 rfl (fun j v hj => ?_) (by rw [arrN_size]; simp [constL]) (by simp [constL, Value.oneCell']) fun w6 hX6 ht6 => ?_
  · rw [nb_add]
    refine hF5.cell0 j ?_
    rw [← hj]; simp [constL]
  have hX6' : Blk w6 w.heap.size Ty_16_uint32 (arrN .u32 16 fun j => if j < 4 then constL.getD j 0 else 0) := hX6
  have b6 := b5.but ht6 (Nat.le_refl _)
  have hs6 := ht6.size
  have fin : ∀ w11, Blk w11 w.heap.size Ty_16_uint32 (arrN .u32 16 (st0 key ctr nonce)) → Below w.heap.size w w11 → w.heap.size < w11.heap.size → True := fun _ _ _ _ => trivial
  refine ⟨fun x => ((8 - x).toNat, fun w7 => ∃ k : Nat, x = k ∧ k ≤ 8 ∧ Blk w7 w.heap.size Ty_16_uint32 (arrN .u32 16 fun j => if j < 4 then constL.getD j 0 else if j < 4 + k then word4 (key.drop (4 * (j - 4))) else 0) ∧ Below w.heap.size w w7), ⟨0, rfl, by omega, ?_, b6⟩, ?_⟩
  · refine (arrN_congr fun j hj => ?_) ▸ hX6'
    by_cases h : j < 4
    · rw [if_pos h, if_pos h]
    · rw [if_neg h, if_neg h, if_neg (by omega)]
  clear hX6' hX6 b6 hs6 ht6 fin w6
  rintro _ x w7 ⟨k, rfl, hk8, hX7, b7⟩
  refine bsplit_dec (fun hlt => ?_) (fun hge => ?_)
  · have hlt : k < 8 := by omega
    rw [show (4 : Int) = ((4 : Nat) : Int) from rfl, wrap4 (by omega) (by omega), show (((4 : Nat) : Int) + (k : Int)) = ((4 + k : Nat) : Int) by omega, wrap_id ((4 + k : Nat) : Int) (by omega)]
    refine ⟨⟨by omega, by omega⟩, ?_⟩
    rw [Int.toNat_natCast]
    have hrow := (hk.below b7).tail (m := kc) (l := 4 * k) (by omega)
    have := load_ok (c := kc - 4 * k) hrow (by simp; omega)
    rw [List.length_drop] at this
    refine this.mono ?_
    rintro _ w8 ⟨rfl, b8⟩
    have hX8 := hX7.below b8 hX7.lt
    refine ⟨_, rfl, ⟨by omega, by omega⟩, ?_, ?_, ?_⟩
    · rw [nb_add, Int.toNat_natCast, Nat.mul_one]; exact hX8.has (by rw [arrN_size]; omega)
    · rw [nb_add]; exact hX8.frozen _
    · intro w9
      have e9 : w9 = w8.setCell ⟨w.heap.size, 4 + k, none⟩ (.int .u32 (word4 (key.drop (4 * k)))) := by simp only [w9]; rw [nb_add, Int.toNat_natCast, Nat.mul_one]
      clear_value w9
      subst e9
      rw [wrap_id ((k : Int) + 1) (by omega)]
      refine ⟨⟨k + 1, by omega, by omega, ?_, (below_step b7 (Nat.le_of_lt hX7.lt |> fun _ => Nat.le_refl _) b8).setCell (Nat.le_refl _) _⟩, by simp; omega⟩
      have := hX8.set (4 + k) (.int .u32 (word4 (key.drop (4 * k))))
      rw [arrN_set] at this
      refine (arrN_congr fun j hj => ?_) ▸ this
      by_cases hjk : j = 4 + k
      · subst hjk; rw [if_pos rfl, if_neg (by omega), if_pos (by omega), show 4 + k - 4 = k by omega]
      · rw [if_neg hjk]
        by_cases h4 : j < 4
        · rw [if_pos h4, if_pos h4]
        · rw [if_neg h4, if_neg h4]
          by_cases h5 : j < 4 + k
          · rw [if_pos h5, if_pos (by omega)]
          · rw [if_neg h5, if_neg (by omega)]
  · obtain rfl : k = 8 := by omega
    refine ⟨by rw [nb_add]; exact hX7.has (by rw [arrN_size]; omega), by rw [nb_add]; exact hX7.frozen _, ?_⟩
    intro w10
    have hX10 : Blk w10 w.heap.size Ty_16_uint32 (arrN .u32 16 fun j => if j < 4 then constL.getD j 0 else if j < 12 then word4 (key.drop (4 * (j - 4))) else if j = 12 then w32 ctr else 0) := by
      have := hX7.set 12 (.int .u32 (w32 ctr))
      rw [arrN_set] at this
      have e : w10 = w7.setCell ⟨w.heap.size, 12, none⟩ (.int .u32 (w32 ctr)) := by simp only [w10]; rw [nb_add]; rfl
      rw [e]
      refine (arrN_congr fun j hj => ?_) ▸ this
      by_cases hj12 : j = 12
      · subst hj12; rfl
      · rw [if_neg hj12, if_neg hj12]
    have b10 : Below w.heap.size w w10 := by simp only [w10]; rw [nb_add]; exact b7.setCell (Nat.le_refl _) _
    clear_value w10
    refine ⟨fun x => ((3 - x).toNat, fun w11 => ∃ k : Nat, x = k ∧ k ≤ 3 ∧ Blk w11 w.heap.size Ty_16_uint32 (arrN .u32 16 fun j => if j < 4 then constL.getD j 0 else if j < 12 then word4 (key.drop (4 * (j - 4))) else if j = 12 then w32 ctr else if j < 13 + k then word4 (nonce.drop (4 * (j - 13))) else 0) ∧ Below w.heap.size w w11), ⟨0, rfl, by omega, ?_, b10⟩, ?_⟩
    · refine (arrN_congr fun j hj => ?_) ▸ hX10
      by_cases h1 : j < 4
      · rw [if_pos h1, if_pos h1]
      · rw [if_neg h1, if_neg h1]
        by_cases h2 : j < 12
        · rw [if_pos h2, if_pos h2]
        · rw [if_neg h2, if_neg h2]
          by_cases h3 : j = 12
          · rw [if_pos h3, if_pos h3]
          · rw [if_neg h3, if_neg h3, if_neg (by omega)]
    clear hX10 b10 w10 hX7 b7 w7
    rintro _ x w11 ⟨k, rfl, hk3, hX11, b11⟩
    refine bsplit_dec (fun hlt => ?_) (fun hge => ?_)
    · have hlt : k < 3 := by omega
      rw [show (4 : Int) = ((4 : Nat) : Int) from rfl, wrap4 (by omega) (by omega), show ((13 : Int) + (k : Int)) = ((13 + k : Nat) : Int) by omega, wrap_id ((13 + k : Nat) : Int) (by omega)]
      refine ⟨⟨by omega, by omega⟩, ?_⟩
      rw [Int.toNat_natCast]
      have hrow := (hn.below b11).tail (m := nc) (l := 4 * k) (by omega)
      have := load_ok (c := nc - 4 * k) hrow (by simp; omega)
      rw [List.length_drop] at this
      refine this.mono ?_
      rintro _ w12 ⟨rfl, b12⟩
      have hX12 := hX11.below b12 hX11.lt
      refine ⟨_, rfl, ⟨by omega, by omega⟩, ?_, ?_, ?_⟩
      · rw [nb_add, Int.toNat_natCast, Nat.mul_one]; exact hX12.has (by rw [arrN_size]; omega)
      · rw [nb_add]; exact hX12.frozen _
      · intro w13
        have e13 : w13 = w12.setCell ⟨w.heap.size, 13 + k, none⟩ (.int .u32 (word4 (nonce.drop (4 * k)))) := by simp only [w13]; rw [nb_add, Int.toNat_natCast, Nat.mul_one]
        clear_value w13
        subst e13
        rw [wrap_id ((k : Int) + 1) (by omega)]
        refine ⟨⟨k + 1, by omega, by omega, ?_, (below_step b11 (Nat.le_refl _) b12).setCell (Nat.le_refl _) _⟩, by simp; omega⟩
        have := hX12.set (13 + k) (.int .u32 (word4 (nonce.drop (4 * k))))
        rw [arrN_set] at this
        refine (arrN_congr fun j hj => ?_) ▸ this
        by_cases hjk : j = 13 + k
        · subst hjk; rw [if_pos rfl, if_neg (by omega), if_neg (by omega), if_neg (by omega), if_pos (by omega), show 13 + k - 13 = k by omega]
        · rw [if_neg hjk]
          by_cases h1 : j < 4
          · rw [if_pos h1, if_pos h1]
          · rw [if_neg h1, if_neg h1]
            by_cases h2 : j < 12
            · rw [if_pos h2, if_pos h2]
            · rw [if_neg h2, if_neg h2]
              by_cases h3 : j = 12
              · rw [if_pos h3, if_pos h3]
              · rw [if_neg h3, if_neg h3]
                by_cases h5 : j < 13 + k
                · rw [if_pos h5, if_pos (by omega)]
                · rw [if_neg h5, if_neg (by omega)]
    · obtain rfl : k = 3 := by omega
      have hX : Blk w11 w.heap.size Ty_16_uint32 (arrN .u32 16 (st0 key ctr nonce)) := by
        refine (arrN_congr fun j hj => ?_) ▸ hX11
        unfold st0
        by_cases h1 : j < 4
        · rw [if_pos h1, if_pos h1]
        · rw [if_neg h1, if_neg h1]
          by_cases h2 : j < 12
          · rw [if_pos h2, if_pos h2]
          · rw [if_neg h2, if_neg h2]
            by_cases h3 : j = 12
            · rw [if_pos h3, if_pos h3]
            · rw [if_neg h3, if_neg h3, if_pos (by omega)]
      clear hX11
      have hlt0 := hX.lt
      refine ⟨arrN .u32 16 (st0 key ctr nonce), arrN_size _ _ _, blk_cellsAll (by simpa using hX), ?_⟩
      intro w14
      have hX14 : Blk w14 w.heap.size Ty_16_uint32 (arrN .u32 16 (st0 key ctr nonce)) := hX.alloc _
      have hS14 : Blk w14 w11.heap.size Ty_16_uint32 (arrN .u32 16 fun _ => 0) := Blk.new w11 _ _
      have b14 : Below w.heap.size w w14 := b11.alloc (by omega) _
      clear_value w14
      rw [bcond_iff]
      refine ⟨by rw [arrN_size]; rfl, ?_⟩
      refine blk_storeAll hS14 (by simp [arrN_size]) (arrN_one _ _ _) fun w15 hS15 ht15 => ?_
      have hX15 := hX14.but ht15 (by omega)
      have b15 := b14.but ht15 (by omega)
      have hS15' : Blk w15 w11.heap.size Ty_16_uint32 (arrN .u32 16 (st0 key ctr nonce)) := by simpa using hS15
      clear hS15 ht15 hS14 hX14 b14 w14
      refine ⟨fun x => ((10 - x).toNat, fun w16 => ∃ r : Nat, x = r ∧ r ≤ 10 ∧ Blk w16 w.heap.size Ty_16_uint32 (arrN .u32 16 (rnds (st0 key ctr nonce) r)) ∧ Blk w16 w11.heap.size Ty_16_uint32 (arrN .u32 16 (st0 key ctr nonce)) ∧ Below w.heap.size w w16), ⟨0, rfl, by omega, hX15, hS15', b15⟩, ?_⟩
      clear hX15 hS15' b15 w15
      rintro _ x w16 ⟨r, rfl, hr10, hX16, hS16, b16⟩
      refine bsplit_dec (fun hlt => ?_) (fun hge => ?_)
      · refine ⟨_, _, _, _, _, _, _, _, _, _, _, _, _, _, _, _, _, _, _, _, _, _, _, _, _, _, _, _, _, _, _, _, hT.below b16, ?_⟩
        refine ⟨fun x => ((8 - x).toNat, fun w17 => ∃ k : Nat, x = k ∧ k ≤ 8 ∧ Blk w17 w.heap.size Ty_16_uint32 (arrN .u32 16 (rnd (rnds (st0 key ctr nonce) r) k)) ∧ Blk w17 w11.heap.size Ty_16_uint32 (arrN .u32 16 (st0 key ctr nonce)) ∧ Below w.heap.size w w17), ⟨0, rfl, by omega, hX16, hS16, b16⟩, ?_⟩
        clear hX16 hS16 b16 w16
        rintro _ x w17 ⟨k, rfl, hk8, hX17, hS17, b17⟩
        refine bsplit_dec (fun hlt => ?_) (fun hge => ?_)
        · have hlt : k < 8 := by omega
          refine ⟨⟨by omega, by omega⟩, ((lane (4 * k) : Nat) : Int), ((lane (4 * k + 1) : Nat) : Int), ((lane (4 * k + 2) : Nat) : Int), ((lane (4 * k + 3) : Nat) : Int), by rw [Int.toNat_natCast]; exact lane_row k hlt, ?_⟩
          obtain ⟨l0, l1, l2, l3⟩ := lane4_lt hlt
          obtain ⟨s, hs⟩ : ∃ s, rnd (rnds (st0 key ctr nonce) r) k = s := ⟨_, rfl⟩
          rw [hs] at hX17
          intro w18
          have hX18 : Blk w18 w.heap.size Ty_16_uint32 (arrN .u32 16 s) := hX17.alloc _
          have hS18 : Blk w18 w11.heap.size Ty_16_uint32 (arrN .u32 16 (st0 key ctr nonce)) := hS17.alloc _
          have hL18 : Blk w18 w17.heap.size Ty_4_int #[.int .i64 0, .int .i64 0, .int .i64 0, .int .i64 0] := Blk.new w17 _ _
          have b18 : Below w.heap.size w w18 := b17.alloc (Nat.le_of_lt hX17.lt) _
          clear_value w18
          refine blk_storeAll hL18 rfl rfl fun w19 hL19 ht19 => ?_
          have hX19 := hX18.but ht19 (show w.heap.size ≠ w17.heap.size by have := hX17.lt; omega)
          have hS19 := hS18.but ht19 (show w11.heap.size ≠ w17.heap.size by have := hS17.lt; omega)
          have b19 := b18.but ht19 (show w.heap.size ≤ w17.heap.size by have := hX17.lt; omega)
          intro w20
          have hX20 : Blk w20 w.heap.size Ty_16_uint32 (arrN .u32 16 (s)) := hX19
          have hS20 : Blk w20 w11.heap.size Ty_16_uint32 (arrN .u32 16 (st0 key ctr nonce)) := hS19
          have hL20 : Blk w20 w17.heap.size Ty_4_int [Value.int .i64 (lane (4 * k) : Nat), .int .i64 (lane (4 * k + 1) : Nat), .int .i64 (lane (4 * k + 2) : Nat), .int .i64 (lane (4 * k + 3) : Nat)].toArray := hL19
          have b20 : Below w.heap.size w w20 := b19.drew
          have hne : w.heap.size ≠ w17.heap.size := by have := hX17.lt; omega
          have hneS : w11.heap.size ≠ w.heap.size := by omega
          clear_value w20
          have cl : ∀ {w' : World} {cs : Array Value}, Blk w' w.heap.size Ty_16_uint32 cs → ∀ l : Nat, cs[l]? = some (.int .u32 (s l)) → w'.cell? ((nb w).add ((l : Int).toNat * 1)) = some (.int .u32 (s l)) := fun h l hl => by
            rw [nb_add, Int.toNat_natCast, Nat.mul_one]; exact h.cell0 l hl
          have cx : ∀ l : Nat, l < 16 → w20.cell? ((nb w).add ((l : Int).toNat * 1)) = some (.int .u32 (s l)) := fun l hl => cl hX20 l (arrN_get hl)
          have hx0 : w20.cell? (nb w17) = some (.int .i64 (lane (4 * k) : Nat)) := hL20.cell0 0 rfl
          have hx1 : w20.cell? ((nb w17).add 1) = some (.int .i64 (lane (4 * k + 1) : Nat)) := by rw [nb_add]; exact hL20.cell0 1 rfl
          have hx2 : w20.cell? ((nb w17).add 2) = some (.int .i64 (lane (4 * k + 2) : Nat)) := by rw [nb_add]; exact hL20.cell0 2 rfl
          have hx3 : w20.cell? ((nb w17).add 3) = some (.int .i64 (lane (4 * k + 3) : Nat)) := by rw [nb_add]; exact hL20.cell0 3 rfl
          have sb : ∀ j, ((nb w17).add j).block = w17.heap.size := fun j => by rw [add_block]; rfl
          refine ⟨(· = w17.heap.size), rfl, _, hx0, sb 1, _, hx1, sb 2, _, hx2, sb 3, _, hx3,
            rfl, _, hx0, ⟨by omega, by omega⟩, _, cx _ l0, sb 1, _, hx1, ⟨by omega, by omega⟩, _, cx _ l1, sb 2, _, hx2, ⟨by omega, by omega⟩, _, cx _ l2, sb 3, _, hx3, ⟨by omega, by omega⟩, _, cx _ l3, ?_⟩
          refine (quarter_ok _ _ _ _ w20).mono ?_
          rintro _ w21 ⟨rfl, rfl⟩
          refine ⟨_, _, _, _, rfl, KeepsB.refl _ _, ⟨by omega, by omega⟩, ?_⟩
          have kb : ∀ {w' : World} (l : Nat) (v : Value), KeepsB (· = w17.heap.size) w21 w' → KeepsB (· = w17.heap.size) w21 (w'.setCell ⟨w.heap.size, l, none⟩ v) := fun l v h p u hp hc => by
            rw [World.cell?_of_block (Below.heap_setCell _ _ _ _ (by have : p.block = w17.heap.size := hp; simp; omega))]
            exact h p u hp hc
          have ad : ∀ l : Nat, (nb w).add ((l : Int).toNat * 1) = ⟨w.heap.size, l, none⟩ := fun l => by rw [nb_add, Int.toNat_natCast, Nat.mul_one]
          refine ⟨by rw [ad]; exact hX20.has (by rw [arrN_size]; omega), by rw [ad]; exact hX20.frozen _, ?_⟩
          intro w22
          have e22 : w22 = w21.setCell ⟨w.heap.size, lane (4 * k), none⟩ (.int .u32 (laneQ s k).a) := by simp only [w22]; rw [ad]; rfl
          clear_value w22
          subst e22
          have hX22 := hX20.set (lane (4 * k)) (.int .u32 (laneQ s k).a)
          refine ⟨kb _ _ (KeepsB.refl _ _), ⟨by omega, by omega⟩, by rw [ad]; exact hX22.has (by simp [arrN_size]; omega), by rw [ad]; exact hX22.frozen _, ?_⟩
          intro w23
          have e23 : w23 = (w21.setCell ⟨w.heap.size, lane (4 * k), none⟩ (.int .u32 (laneQ s k).a)).setCell ⟨w.heap.size, lane (4 * k + 1), none⟩ (.int .u32 (laneQ s k).b) := by simp only [w23]; rw [ad]; rfl
          clear_value w23
          subst e23
          have hX23 := hX22.set (lane (4 * k + 1)) (.int .u32 (laneQ s k).b)
          refine ⟨kb _ _ (kb _ _ (KeepsB.refl _ _)), ⟨by omega, by omega⟩, by rw [ad]; exact hX23.has (by simp [arrN_size]; omega), by rw [ad]; exact hX23.frozen _, ?_⟩
          intro w24
          have e24 : w24 = ((w21.setCell ⟨w.heap.size, lane (4 * k), none⟩ (.int .u32 (laneQ s k).a)).setCell ⟨w.heap.size, lane (4 * k + 1), none⟩ (.int .u32 (laneQ s k).b)).setCell ⟨w.heap.size, lane (4 * k + 2), none⟩ (.int .u32 (laneQ s k).c) := by simp only [w24]; rw [ad]; rfl
          clear_value w24
          subst e24
          have hX24 := hX23.set (lane (4 * k + 2)) (.int .u32 (laneQ s k).c)
          refine ⟨kb _ _ (kb _ _ (kb _ _ (KeepsB.refl _ _))), ⟨by omega, by omega⟩, by rw [ad]; exact hX24.has (by simp [arrN_size]; omega), by rw [ad]; exact hX24.frozen _, ?_⟩
          intro w25
          have e25 : w25 = (((w21.setCell ⟨w.heap.size, lane (4 * k), none⟩ (.int .u32 (laneQ s k).a)).setCell ⟨w.heap.size, lane (4 * k + 1), none⟩ (.int .u32 (laneQ s k).b)).setCell ⟨w.heap.size, lane (4 * k + 2), none⟩ (.int .u32 (laneQ s k).c)).setCell ⟨w.heap.size, lane (4 * k + 3), none⟩ (.int .u32 (laneQ s k).d) := by simp only [w25]; rw [ad]; rfl
          clear_value w25
          subst e25
          have hX25 := hX24.set (lane (4 * k + 3)) (.int .u32 (laneQ s k).d)
          rw [arr_upd4] at hX25
          have hS25 := (((hS20.far (p := ⟨w.heap.size, lane (4 * k), none⟩) hneS (.int .u32 (laneQ s k).a)).far (p := ⟨w.heap.size, lane (4 * k + 1), none⟩) hneS (.int .u32 (laneQ s k).b)).far (p := ⟨w.heap.size, lane (4 * k + 2), none⟩) hneS (.int .u32 (laneQ s k).c)).far (p := ⟨w.heap.size, lane (4 * k + 3), none⟩) hneS (.int .u32 (laneQ s k).d)
          have b25 := (((b20.setCell (p := ⟨w.heap.size, lane (4 * k), none⟩) (Nat.le_refl _) (.int .u32 (laneQ s k).a)).setCell (p := ⟨w.heap.size, lane (4 * k + 1), none⟩) (Nat.le_refl _) (.int .u32 (laneQ s k).b)).setCell (p := ⟨w.heap.size, lane (4 * k + 2), none⟩) (Nat.le_refl _) (.int .u32 (laneQ s k).c)).setCell (p := ⟨w.heap.size, lane (4 * k + 3), none⟩) (Nat.le_refl _) (.int .u32 (laneQ s k).d)
          rw [wrap_id ((k : Int) + 1) (by omega)]
          refine ⟨⟨k + 1, by omega, by omega, ?_, hS25, b25⟩, by simp; omega⟩
          have : rnd (rnds (st0 key ctr nonce) r) (k + 1) = upd4 s k := by rw [rnd, hs]
          rw [this]; exact hX25
        · obtain rfl : k = 8 := by omega
          rw [wrap_id ((r : Int) + 1) (by omega)]
          exact ⟨⟨r + 1, by omega, by omega, hX17, hS17, b17⟩, by simp; omega⟩
      · obtain rfl : r = 10 := by omega
        refine ⟨arrN .u32 16 (rnds (st0 key ctr nonce) 10), arrN_size _ _ _, blk_cellsAll (by simpa using hX16), ?_⟩
        refine ⟨fun oa ol oc x => ((16 - x).toNat, fun w26 => ∃ i : Nat, x = i ∧ i ≤ 16 ∧ ol = 4 * i ∧ Blk w26 w11.heap.size Ty_16_uint32 (arrN .u32 16 (st0 key ctr nonce)) ∧ OwnI w26 (w11.heap.size + 1) Ty_uint8 .u8 oa (4 * i) oc (outL (st0 key ctr nonce) i) ∧ Below w.heap.size w w26 ∧ w11.heap.size < w26.heap.size), ⟨0, rfl, by omega, rfl, hS16, OwnI.nil_ .., b16, hS16.lt⟩, ?_⟩
        clear hX16 hS16 b16 w16
        rintro _ oa ol oc x w26 ⟨i, rfl, hi16, rfl, hS26, ho26, b26, hs26⟩
        refine bsplit_dec (fun hlt => ?_) (fun hge => ?_)
        · have hlt : i < 16 := by omega
          refine ⟨⟨by omega, by omega⟩, rnds (st0 key ctr nonce) 10 i, by rw [Int.toNat_natCast, Nat.mul_one]; exact arrN_get hlt, ⟨by omega, by omega⟩, st0 key ctr nonce i, by rw [nb_add, Int.toNat_natCast, Nat.mul_one]; exact hS26.cell0 i (arrN_get hlt), ?_⟩
          have hlen := outL_length (st0 key ctr nonce) i
          have := store_ok (c := oc) (w := w26) (base := w11.heap.size + 1) (a := oa) (xs := outL (st0 key ctr nonce) i) (by rw [hlen]; exact ho26) (by omega) (by omega) (w32 (rnds (st0 key ctr nonce) 10 i + st0 key ctr nonce i))
          rw [hlen] at this
          refine this.mono ?_
          rintro _ w27 ⟨a', c', rfl, ho27, b27⟩
          rw [wrap_id ((i : Int) + 1) (by omega)]
          refine ⟨_, _, _, rfl, ⟨i + 1, by omega, by omega, by omega, hS26.below b27 (by omega), ho27, ?_, ?_⟩, by simp; omega⟩
          · exact b26.trans (b27.mono (by omega))
          · have := b27.size; omega
        · obtain rfl : i = 16 := by omega
          exact ⟨oa, oc, rfl, ho26.weaken (by omega), b26⟩
end
end Go.Proofs.YtblfbanfepocnaaDoor
