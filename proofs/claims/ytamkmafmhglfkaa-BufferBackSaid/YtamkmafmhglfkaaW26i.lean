import Derived.Test.YtamkmafmhglfkaaW26h
import Derived.Test.YtamkmafmhglfkaaSt
namespace Go.Proofs.Ytamkmafmhglfkaa
open Go.Sx Go.RowKit

section
variable {u0 u1 u2 u3 : Int} {w : World}
theorem law_back (h0 : 0 ≤ u0 ∧ u0 ≤ 255) (h1 : 0 ≤ u1 ∧ u1 ≤ 255) (h2 : 0 ≤ u2 ∧ u2 ≤ 255) (h3 : 0 ≤ u3 ∧ u3 ≤ 255) :
    Calls Try.prog N_law26_BufferBack #[.agg #[.int .u8 u0, .int .u8 u1, .int .u8 u2, .int .u8 u3]] w fun e w' => e = .returned (.bool true) ∧ Below w.heap.size w w' := by
  apply F_law26_BufferBack_ok
  unfold F_law26_BufferBack
  obtain ⟨L, hL⟩ : ∃ L, L = l4 (u0 % 16) (u1 % 16) (u2 % 16) (u3 % 16) := ⟨_, rfl⟩
  have hok : lvOk L := by rw [hL, lvOk_iff]; omega
  intro w1
  have hU1 : Blk w1 w.heap.size Ty_4_uint8 (arrN .u8 4 (l4 u0 u1 u2 u3)) := Blk.new w _ _
  have b1 : Below w.heap.size w w1 := (Below.refl _ _).alloc (Nat.le_refl _) _
  have hs1 : w1.heap.size = w.heap.size + 1 := by simp [w1]
  clear_value w1
  intro w2
  have hU2 : Blk w2 w.heap.size Ty_4_uint8 (arrN .u8 4 (l4 u0 u1 u2 u3)) := hU1.alloc _
  have hW2 : Blk w2 w1.heap.size Ty_api_Waiting (arrN .i64 4 fun _ => 0) := Blk.new w1 _ _
  have b2 : Below w.heap.size w w2 := b1.alloc (by omega) _
  clear_value w2
  refine blk_storeAll hW2 rfl rfl fun w3 hW3 t3 => ?_
  have hU3 := hU2.but t3 (by omega)
  have b3 := b2.but t3 (by omega)
  have hW3' : Blk w3 w1.heap.size Ty_api_Waiting (arrN .i64 4 fun _ => 0) := hW3
  refine ⟨fun most i => ((4 - i).toNat, fun w4 => ∃ k : Nat, i = k ∧ k ≤ 4 ∧ most = (bst L k : Nat) ∧ Blk w4 w1.heap.size Ty_api_Waiting (arrN .i64 4 fun j => if j < k then L j else 0) ∧ Blk w4 w.heap.size Ty_4_uint8 (arrN .u8 4 (l4 u0 u1 u2 u3)) ∧ Below w.heap.size w w4), ⟨0, rfl, by omega, rfl, by simpa using hW3', hU3, b3⟩, ?_⟩
  clear hW3 hW3' hU3 b3 t3 w3
  rintro _ most i w4 ⟨k, rfl, hk4, rfl, hW4, hU4, b4⟩
  refine bsplit_dec (fun hlt => ?_) (fun hge => ?_)
  · have hlt : k < 4 := by omega
    have hLk : IntKind.wrap .i64 (Int.tmod (l4 u0 u1 u2 u3 k) 16) = L k := by
      rw [hL]
      rcases (show k = 0 ∨ k = 1 ∨ k = 2 ∨ k = 3 by omega) with rfl | rfl | rfl | rfl
      · show IntKind.wrap .i64 (Int.tmod u0 16) = u0 % 16
        rw [Int.tmod_eq_emod_of_nonneg h0.1, wrap_id _ (by omega)]
      · show IntKind.wrap .i64 (Int.tmod u1 16) = u1 % 16
        rw [Int.tmod_eq_emod_of_nonneg h1.1, wrap_id _ (by omega)]
      · show IntKind.wrap .i64 (Int.tmod u2 16) = u2 % 16
        rw [Int.tmod_eq_emod_of_nonneg h2.1, wrap_id _ (by omega)]
      · show IntKind.wrap .i64 (Int.tmod u3 16) = u3 % 16
        rw [Int.tmod_eq_emod_of_nonneg h3.1, wrap_id _ (by omega)]
    refine ⟨⟨by omega, by omega⟩, l4 u0 u1 u2 u3 k, by rw [nb_add, Int.toNat_natCast, Nat.mul_one]; exact hU4.cell0 k (arrN_get hlt), ⟨by omega, by omega⟩, ?_, ?_, ?_⟩
    · rw [nb_add, Int.toNat_natCast, Nat.mul_one]; exact hW4.has (by rw [arrN_size]; omega)
    · rw [nb_add]; exact hW4.frozen _
    intro w5
    have e5 : w5 = w4.setCell ⟨w1.heap.size, k, none⟩ (.int .i64 (L k)) := by simp only [w5]; rw [nb_add, Int.toNat_natCast, Nat.mul_one, hLk]
    clear_value w5
    have hW5 : Blk w5 w1.heap.size Ty_api_Waiting (arrN .i64 4 fun j => if j < k + 1 then L j else 0) := by
      rw [e5]
      have := hW4.set k (.int .i64 (L k))
      rw [arrN_set] at this
      refine (arrN_congr fun j hj => ?_) ▸ this
      by_cases hjk : j = k
      · subst hjk; rw [if_pos rfl, if_pos (by omega)]
      · rw [if_neg hjk]
        by_cases h5 : j < k
        · rw [if_pos h5, if_pos (by omega)]
        · rw [if_neg h5, if_neg (by omega)]
    have hU5 : Blk w5 w.heap.size Ty_4_uint8 (arrN .u8 4 (l4 u0 u1 u2 u3)) := by rw [e5]; exact hU4.far (by simp; omega) _
    have b5 : Below w.heap.size w w5 := by rw [e5]; exact b4.setCell (by simp; omega) _
    clear e5
    intro w6
    have hW6 : Blk w6 w1.heap.size Ty_api_Waiting (arrN .i64 4 fun j => if j < k + 1 then L j else 0) := hW5
    have hU6 : Blk w6 w.heap.size Ty_4_uint8 (arrN .u8 4 (l4 u0 u1 u2 u3)) := hU5
    have b6 : Below w.heap.size w w6 := b5.drew
    clear_value w6
    have hbk : bst L k < k + 1 := by
      rcases Nat.eq_zero_or_pos k with rfl | h
      · simp [bst]
      · have := bst_lt' L k h; omega
    refine ⟨⟨by omega, by omega⟩, L k, ?_, ⟨by omega, by omega⟩, L (bst L k), ?_, ?_⟩
    · rw [nb_add, Int.toNat_natCast, Nat.mul_one]; refine hW6.cell0 k ?_; rw [arrN_get hlt, if_pos (by omega)]
    · rw [nb_add, Int.toNat_natCast, Nat.mul_one]; refine hW6.cell0 _ ?_; rw [arrN_get (by omega), if_pos hbk]
    refine bsplit_dec (fun hgt => ?_) (fun hle => ?_)
    · intro i1
      have e1 : i1 = ((k + 1 : Nat) : Int) := by simp only [i1]; rw [wrap_id _ (by omega)]; omega
      rw [e1]
      exact ⟨⟨k + 1, rfl, by omega, by simp only [bst]; rw [if_pos hgt], hW6, hU6, b6⟩, by simp; omega⟩
    · intro i1
      have e1 : i1 = ((k + 1 : Nat) : Int) := by simp only [i1]; rw [wrap_id _ (by omega)]; omega
      rw [e1]
      exact ⟨⟨k + 1, rfl, by omega, by simp only [bst]; rw [if_neg hle], hW6, hU6, b6⟩, by simp; omega⟩
  · obtain rfl : k = 4 := by omega
    obtain ⟨x0, x1, x2, x3, hx⟩ : ∃ x0 x1 x2 x3, L = l4 x0 x1 x2 x3 := ⟨_, _, _, _, hL⟩
    have hok : lvOk (l4 x0 x1 x2 x3) := hx ▸ hok
    have hW4 : Blk w4 w1.heap.size Ty_api_Waiting [Value.int .i64 x0, .int .i64 x1, .int .i64 x2, .int .i64 x3].toArray := by
      have : arrN .i64 4 (fun j => if j < 4 then L j else 0) = arrN .i64 4 (l4 x0 x1 x2 x3) := arrN_congr fun j hj => by rw [if_pos hj, hx]
      rw [this] at hW4; exact hW4
    obtain ⟨q, hq⟩ : ∃ q, q = bst L 4 := ⟨_, rfl⟩
    have hq4 : q < 4 := by rw [hq]; exact bst_lt' L 4 (by decide)
    rw [← hq]
    have H4 : St (fun _ => False) [] w w4 [.blk w1.heap.size Ty_api_Waiting [.int .i64 x0, .int .i64 x1, .int .i64 x2, .int .i64 x3]] (fun _ => True) :=
      (St.nil w).add (w' := w4) (r := .blk w1.heap.size Ty_api_Waiting [.int .i64 x0, .int .i64 x1, .int .i64 x2, .int .i64 x3]) b4 hW4 (fun b hb => by simp [Res.at] at hb; omega)
    clear hW4 hU4 b4
    obtain ⟨e4, c4, y4⟩ := back4 hok
    obtain ⟨e3, c3, y3⟩ := back3 hok
    have e2 := back2 hok
    have d4 := dec4 hok
    have hlt := hok q hq4
    have hq' : bst (l4 x0 x1 x2 x3) 4 = q := by rw [hq, hx]
    rw [hq'] at y3
    have d3 := dec3 hq4 hlt
    refine ⟨x0, x1, x2, x3, H4.cells (i := 0) rfl, ?_⟩
    refine encode_ok.mono ?_
    rintro _ w7 ⟨ra, rc, rfl, hs7, b7⟩
    rw [e4, c4, y4]
    rw [y4] at hs7
    have H7 := H4.pass b7
    refine ⟨9, ra, _, rc, 0, rfl, ?_⟩
    intro w8
    have H8 := H7.add (w' := w8) (r := .blk w7.heap.size Ty_api_Section [.int .i64 0, .slice none 0 0]) ((Below.refl _ _).alloc (Nat.le_refl _) _) (show Blk _ _ _ _ from Blk.new w7 _ _) (fun b hb => by simp [Res.at] at hb; omega)
    have a8 : Below w7.heap.size w7 w8 := (Below.refl _ _).alloc (Nat.le_refl _) _
    clear_value w8
    refine H8.storeF (i := 1) rfl (by rfl) (by rfl) ?_; intro w9 g9 H9
    have a9 := a8.frs g9 (by simp) a8.size
    refine ⟨_, _, _, _, H9.cells (i := 1) rfl, ?_⟩
    refine (decode_ok (hs7.below a9) (bytes4 hok)).mono ?_
    rintro _ w10 ⟨rfl, b10⟩; have H10 := H9.pass b10
    rw [d4.1, arrN_congr d4.2]
    refine ⟨x0, x1, x2, x3, 0, rfl, ?_⟩
    intro w11
    have H11 := H10.add (w' := w11) (r := .blk w10.heap.size Ty_api_Waiting [.int .i64 0, .int .i64 0, .int .i64 0, .int .i64 0]) ((Below.refl _ _).alloc (Nat.le_refl _) _) (show Blk _ _ _ _ from Blk.new w10 _ _) (fun b hb => by simp [Res.at] at hb; omega)
    have a11 : Below w10.heap.size w10 w11 := (Below.refl _ _).alloc (Nat.le_refl _) _
    clear_value w11
    refine H11.store (i := 2) rfl (by rfl) (by rfl) ?_; intro w12 H12
    refine ⟨x0, x1, x2, x3, H12.cells (i := 0) rfl, ?_⟩
    refine encode_ok.mono ?_
    rintro _ w13 ⟨rb, rd, rfl, hs13, b13⟩
    rw [e3, c3, y3]
    rw [y3] at hs13
    have H13 := H12.pass b13
    refine ⟨8, rb, _, rd, 0, rfl, ?_⟩
    intro w14
    have H14 := H13.add (w' := w14) (r := .blk w13.heap.size Ty_api_Section [.int .i64 0, .slice none 0 0]) ((Below.refl _ _).alloc (Nat.le_refl _) _) (show Blk _ _ _ _ from Blk.new w13 _ _) (fun b hb => by simp [Res.at] at hb; omega)
    have a14 : Below w13.heap.size w13 w14 := (Below.refl _ _).alloc (Nat.le_refl _) _
    clear_value w14
    refine H14.storeF (i := 3) rfl (by rfl) (by rfl) ?_; intro w15 g15 H15
    have a15 := a14.frs g15 (by simp) a14.size
    refine ⟨_, _, _, _, H15.cells (i := 3) rfl, ?_⟩
    refine (decode_ok (hs13.below a15) (bytes3 hq4 hlt)).mono ?_
    rintro _ w16 ⟨rfl, b16⟩; have H16 := H15.pass b16
    rw [d3.1, arrN_congr d3.2]
    obtain ⟨v, hv⟩ : ∃ v, v = l4 x0 x1 x2 x3 q := ⟨_, rfl⟩
    rw [← hv]
    refine ⟨if 0 = q then v else 0, if 1 = q then v else 0, if 2 = q then v else 0, if 3 = q then v else 0, 0, rfl, ?_⟩
    intro w17
    have H17 := H16.add (w' := w17) (r := .blk w16.heap.size Ty_api_Waiting [.int .i64 0, .int .i64 0, .int .i64 0, .int .i64 0]) ((Below.refl _ _).alloc (Nat.le_refl _) _) (show Blk _ _ _ _ from Blk.new w16 _ _) (fun b hb => by simp [Res.at] at hb; omega)
    have a17 : Below w16.heap.size w16 w17 := (Below.refl _ _).alloc (Nat.le_refl _) _
    clear_value w17
    refine H17.store (i := 4) rfl (by rfl) (by rfl) ?_; intro w18 H18
    intro w19
    have H19 := H18.add (w' := w19) (r := .blk w18.heap.size Ty_api_Waiting [.int .i64 0, .int .i64 0, .int .i64 0, .int .i64 0]) ((Below.refl _ _).alloc (Nat.le_refl _) _) (show Blk _ _ _ _ from Blk.new w18 _ _) (fun b hb => by simp [Res.at] at hb; omega)
    have a19 : Below w18.heap.size w18 w19 := (Below.refl _ _).alloc (Nat.le_refl _) _
    clear_value w19
    refine H19.store (i := 5) rfl (by rfl) (by rfl) ?_; intro w20 H20
    simp only [List.cons_append, List.nil_append, List.set_cons_zero, List.set_cons_succ] at H20
    have hcell : ([Value.int .i64 x0, .int .i64 x1, .int .i64 x2, .int .i64 x3] : List Value)[q]? = some (.int .i64 v) := by
      rw [hv]
      rcases (show q = 0 ∨ q = 1 ∨ q = 2 ∨ q = 3 by omega) with h | h | h | h <;> rw [h] <;> rfl
    refine ⟨⟨by omega, by omega⟩, v, ?_, ⟨by omega, by omega⟩, ?_⟩
    · rw [nb_add, Int.toNat_natCast, Nat.mul_one]; exact H20.cell (i := 0) rfl hcell
    rw [nb_add, Int.toNat_natCast, Nat.mul_one]
    have hset : ∀ F : World → Prop, (∀ w', St (fun _ => False) [] w w' _ (fun _ => True) → F w') → kSet w20 ⟨w18.heap.size, q, none⟩ (.int .i64 v) F := fun F h => H20.set (i := 5) rfl (by simpa using hq4) h
    obtain ⟨h1, h2, H21'⟩ := hset (fun w' => St (fun _ => False) [] w w' _ (fun _ => True)) (fun _ h => h)
    refine ⟨h1, h2, ?_⟩
    intro w21
    have H21 : St (fun _ => False) [] w w21 _ (fun _ => True) := H21'
    clear_value w21
    have hone : ([Value.int .i64 0, .int .i64 0, .int .i64 0, .int .i64 0] : List Value).set q (.int .i64 v) = [.int .i64 (if 0 = q then v else 0), .int .i64 (if 1 = q then v else 0), .int .i64 (if 2 = q then v else 0), .int .i64 (if 3 = q then v else 0)] := by
      rcases (show q = 0 ∨ q = 1 ∨ q = 2 ∨ q = 3 by omega) with h | h | h | h <;> rw [h] <;> rfl
    rw [hone] at H21
    refine ⟨x0, x1, x2, x3, H21.cells (i := 0) rfl, ?_⟩
    refine encode_ok.mono ?_
    rintro _ w22 ⟨rq, rqc, rfl, hs22, b22⟩
    rw [e2]
    have H22 := H21.pass b22
    refine ⟨_, rq, _, rqc, 15, rfl, ?_⟩
    intro w23
    have H23 := H22.add (w' := w23) (r := .blk w22.heap.size Ty_api_Section [.int .i64 0, .slice none 0 0]) ((Below.refl _ _).alloc (Nat.le_refl _) _) (show Blk _ _ _ _ from Blk.new w22 _ _) (fun b hb => by simp [Res.at] at hb; omega)
    have a23 : Below w22.heap.size w22 w23 := (Below.refl _ _).alloc (Nat.le_refl _) _
    clear_value w23
    refine H23.store (i := 6) rfl (by rfl) (by rfl) ?_; intro w24 H24
    simp only [List.cons_append, List.nil_append, List.set_cons_zero, List.set_cons_succ] at H24
    refine bsplit_intro (fun _ => ?_) (fun h => by simp at h)
    refine bsplit_intro (fun _ => ?_) (fun h => by simp at h)
    refine ⟨x0, x1, x2, x3, H24.cells (i := 2) rfl, x0, x1, x2, x3, H24.cells (i := 0) rfl, ?_⟩
    refine eq_waiting (bsplit_intro (fun _ => ?_) (fun h => by simp at h))
    refine bsplit_intro (fun _ => ?_) (fun h => by simp at h)
    refine bsplit_intro (fun _ => ?_) (fun h => by simp at h)
    refine ⟨_, _, _, _, H24.cells (i := 4) rfl, _, _, _, _, H24.cells (i := 5) rfl, ?_⟩
    refine eq_waiting (bsplit_intro (fun _ => ?_) (fun h => by simp at h))
    refine bsplit_intro (fun _ => ?_) (fun h => by simp at h)
    refine (awake_ok w24).mono ?_
    rintro _ w25 ⟨rfl, b25⟩
    exact ⟨_, rfl, rfl, (H24.pass b25).below⟩
end
end Go.Proofs.Ytamkmafmhglfkaa
