import Derived.Test.YtblfbanfepocnaaDoorW13f
namespace Go.Proofs.YtblfbanfepocnaaDoor
open Go.Sx Go.RowKit

def z4 : Array Value := #[.int .i64 0, .int .i64 0, .int .i64 0, .int .i64 0]
def Q4.list (q : Q4) : List Int := [q.a, q.b, q.c, q.d]
def Q4.cells (q : Q4) : Array Value := (q.list.map (Value.int .i64)).toArray
theorem qi_range (a b c d : Int) : ∀ j : Nat, j < 4 → 0 ≤ (qi a b c d).list.getD j 0 ∧ (qi a b c d).list.getD j 0 < 4294967296 := by
  obtain ⟨h0, h1, h2, h3⟩ := qr_range (w32 a) (w32 b) (w32 c) (w32 d)
  intro j hj
  rcases (show j = 0 ∨ j = 1 ∨ j = 2 ∨ j = 3 by omega) with rfl | rfl | rfl | rfl
  · exact h0
  · exact h1
  · exact h2
  · exact h3

/-- while the two arrays are made: fresh blocks of four zeros -/
structure Inv (w3 : World) (L : List Nat) (w : World) : Prop where
  below : Below w3.heap.size w3 w
  blk : ∀ g ∈ L, w3.heap.size ≤ g ∧ Blk w g Ty_4_int z4
  nd : L.Nodup
section
variable {w3 w : World} {L : List Nat}
theorem Inv.keeps (h : Inv w3 L w) : KeepsB (· < w3.heap.size) w3 w := h.below.keeps
theorem Inv.alloc (h : Inv w3 L w) : Inv w3 (w.heap.size :: L) (w.alloc (.cells z4 Ty_4_int)) := by
  refine ⟨h.below.alloc h.below.size _, fun g hg => ?_, ?_⟩
  · rcases List.mem_cons.1 hg with rfl | hg
    · exact ⟨h.below.size, Blk.new w _ _⟩
    · exact ⟨(h.blk g hg).1, (h.blk g hg).2.alloc _⟩
  · rw [List.nodup_cons]
    exact ⟨fun hm => by have := (h.blk _ hm).2.lt; omega, h.nd⟩
theorem Inv.quarter (h : Inv w3 L w) {x0 x1 x2 x3 : Int} {K : Ending → World → Prop} (hK : ∀ w', Inv w3 L w' → K (.returned (qi x0 x1 x2 x3).arr) w') :
    Calls Tryd.prog N_stream_Quarter #[.agg #[.int .i64 x0, .int .i64 x1, .int .i64 x2, .int .i64 x3]] w K := by
  refine (Quarter_ok x0 x1 x2 x3 w).mono ?_
  rintro _ w' ⟨rfl, b⟩
  exact hK w' ⟨below_step h.below (Nat.le_refl _) b, fun g hg => ⟨(h.blk g hg).1, (h.blk g hg).2.below b (h.blk g hg).2.lt⟩, h.nd⟩
theorem Inv.fin {ga gb : Nat} (h : Inv w3 [ga, gb] w) {qa qb : Q4} {J : World → Prop}
    (hJ : ∀ w', Below w3.heap.size w3 w' → w3.heap.size ≤ ga → w3.heap.size ≤ gb → Blk w' ga Ty_4_int qa.cells → Blk w' gb Ty_4_int qb.cells → J w') :
    sxStore w ⟨ga, 0, none⟩ 0 [.int .i64 qa.a, .int .i64 qa.b, .int .i64 qa.c, .int .i64 qa.d] fun w' => KeepsB (· < w3.heap.size) w3 w' ∧ sxStore w' ⟨gb, 0, none⟩ 0 [.int .i64 qb.a, .int .i64 qb.b, .int .i64 qb.c, .int .i64 qb.d] J := by
  obtain ⟨la, ha⟩ := h.blk ga (by simp)
  obtain ⟨lb, hb⟩ := h.blk gb (by simp)
  have hne : ga ≠ gb := by have := h.nd; simp at this; exact this
  refine blk_storeAll ha rfl rfl fun w4 h4 t4 => ?_
  have b4 := h.below.but t4 la
  refine ⟨b4.keeps, blk_storeAll (hb.but t4 (Ne.symm hne)) rfl rfl fun w5 h5 t5 => ?_⟩
  exact hJ w5 (b4.but t5 lb) la lb (h4.but t5 hne) h5
theorem Inv.swap {ga gb : Nat} (h : Inv w3 [ga, gb] w) : Inv w3 [gb, ga] w :=
  ⟨h.below, fun g hg => h.blk g (by simp at hg ⊢; exact hg.symm), by have := h.nd; simp at this ⊢; exact Ne.symm this⟩
end

theorem modM (x : Int) : modI x 4294967296 = w32 x := by
  unfold modI w32
  rw [if_neg (by decide), IntKind.wrap_u32]

section
variable {x0 x1 x2 x3 y0 y1 y2 y3 : Int} {w : World}
set_option maxHeartbeats 4000000 in
theorem law_quarter (hT : LaneT w) :
    Calls Tryd.prog N_law13_StreamQuarter #[.agg #[.int .i64 x0, .int .i64 x1, .int .i64 x2, .int .i64 x3], .agg #[.int .i64 y0, .int .i64 y1, .int .i64 y2, .int .i64 y3]] w fun e w' => e = .returned (.bool true) ∧ Below w.heap.size w w' := by
  apply F_law13_StreamQuarter_ok
  unfold F_law13_StreamQuarter
  intro w1 w2
  have hX2 : Blk w2 w.heap.size Ty_4_int (([x0, x1, x2, x3] : List Int).map (Value.int .i64)).toArray := (Blk.new w _ _).alloc _
  have hY2 : Blk w2 w1.heap.size Ty_4_int (([y0, y1, y2, y3] : List Int).map (Value.int .i64)).toArray := Blk.new w1 _ _
  have b2 : Below w.heap.size w w2 := ((Below.refl _ _).alloc (Nat.le_refl _) _).alloc (by simp [w1]) _
  have hs1 : w1.heap.size = w.heap.size + 1 := by simp [w1]
  have hs2 : w2.heap.size = w.heap.size + 2 := by simp [w2, w1]
  clear_value w2 w1
  refine ⟨fun a b w62 => ∃ ga gb : Nat, a = ⟨ga, 0, none⟩ ∧ b = ⟨gb, 0, none⟩ ∧ w2.heap.size ≤ ga ∧ w2.heap.size ≤ gb ∧ Blk w62 ga Ty_4_int (qi x0 x1 x2 x3).cells ∧ Blk w62 gb Ty_4_int (qi y0 y1 y2 y3).cells ∧ Below w2.heap.size w2 w62, ?_, ?_⟩
  · rintro _ a b w62 ⟨ga, gb, rfl, rfl, la, lb, hA, hBb, b62⟩
    refine ⟨fun same i => ((4 - i).toNat, fun w63 => ∃ k : Nat, i = k ∧ k ≤ 4 ∧ (same = true ↔ ∀ j, j < k → w32 ([x0, x1, x2, x3].getD j 0) = w32 ([y0, y1, y2, y3].getD j 0)) ∧ Blk w63 ga Ty_4_int (qi x0 x1 x2 x3).cells ∧ Blk w63 gb Ty_4_int (qi y0 y1 y2 y3).cells ∧ Below w2.heap.size w2 w63), ⟨0, rfl, by omega, by simp, hA, hBb, b62⟩, ?_⟩
    clear hA hBb b62 w62
    rintro _ same i w63 ⟨k, rfl, hk4, hsame, hA, hBb, b63⟩
    have hX := hX2.below b63 (by omega)
    have hY := hY2.below b63 (by omega)
    refine bsplit_dec (fun hlt => ?_) (fun hge => ?_)
    · have hlt : k < 4 := by omega
      refine ⟨fun same1 w67 => (same1 = true ↔ ∀ j, j < k + 1 → w32 ([x0, x1, x2, x3].getD j 0) = w32 ([y0, y1, y2, y3].getD j 0)) ∧ Blk w67 ga Ty_4_int (qi x0 x1 x2 x3).cells ∧ Blk w67 gb Ty_4_int (qi y0 y1 y2 y3).cells ∧ Below w2.heap.size w2 w67, ?_, ?_⟩
      · rintro _ same1 w67 ⟨hs, hA7, hB7, b67⟩
        obtain ⟨r0, r1⟩ := qi_range x0 x1 x2 x3 k hlt
        have hcell : w67.cell? ((⟨ga, 0, none⟩ : Addr).add ((k : Int).toNat * 1)) = some (.int .i64 ((qi x0 x1 x2 x3).list.getD k 0)) := by
          rw [Int.toNat_natCast, Nat.mul_one, add_mk, Nat.zero_add]
          refine hA7.cell0 k ?_
          have hl : (qi x0 x1 x2 x3).list.length = 4 := rfl
          simp [Q4.cells, getD_at (show k < (qi x0 x1 x2 x3).list.length by omega), show k < (qi x0 x1 x2 x3).list.length by omega]
        refine ⟨⟨by omega, by omega⟩, _, hcell, bsplit_dec (fun h => by omega) (fun _ => ?_)⟩
        refine ⟨⟨by omega, by omega⟩, _, hcell, bsplit_dec (fun h => by omega) (fun _ => ?_)⟩
        intro i2
        have e2 : i2 = ((k + 1 : Nat) : Int) := by simp only [i2]; rw [wrap_id _ (by omega)]; omega
        rw [e2]
        exact ⟨⟨k + 1, rfl, by omega, hs, hA7, hB7, b67⟩, by simp; omega⟩
      · intro w64
        have hX4 : Blk w64 w.heap.size Ty_4_int (([x0, x1, x2, x3] : List Int).map (Value.int .i64)).toArray := hX
        have hY4 : Blk w64 w1.heap.size Ty_4_int (([y0, y1, y2, y3] : List Int).map (Value.int .i64)).toArray := hY
        have hA4 : Blk w64 ga Ty_4_int (qi x0 x1 x2 x3).cells := hA
        have hB4 : Blk w64 gb Ty_4_int (qi y0 y1 y2 y3).cells := hBb
        have b64 : Below w2.heap.size w2 w64 := b63.drew
        clear_value w64
        have cx : w64.cell? ((nb w).add ((k : Int).toNat * 1)) = some (.int .i64 ([x0, x1, x2, x3].getD k 0)) := by
          rw [nb_add, Int.toNat_natCast, Nat.mul_one]
          refine hX4.cell0 k ?_
          rcases (show k = 0 ∨ k = 1 ∨ k = 2 ∨ k = 3 by omega) with rfl | rfl | rfl | rfl <;> rfl
        have cy : w64.cell? ((nb w1).add ((k : Int).toNat * 1)) = some (.int .i64 ([y0, y1, y2, y3].getD k 0)) := by
          rw [nb_add, Int.toNat_natCast, Nat.mul_one]
          refine hY4.cell0 k ?_
          rcases (show k = 0 ∨ k = 1 ∨ k = 2 ∨ k = 3 by omega) with rfl | rfl | rfl | rfl <;> rfl
        refine ⟨(· < w64.heap.size), bsplit_intro (fun ht => ?_) (fun hf => ?_)⟩
        · refine ⟨⟨by omega, by omega⟩, cell_lt cx, _, cx, ⟨by omega, by omega⟩, cell_lt cy, _, cy, ?_⟩
          refine (mod_ok _ _ (by decide) w64).mono ?_
          rintro _ w65 ⟨rfl, rfl⟩
          refine ⟨_, rfl, KeepsB.refl _ _, ?_⟩
          refine (mod_ok _ _ (by decide) w65).mono ?_
          rintro _ w66 ⟨rfl, rfl⟩
          refine ⟨_, rfl, KeepsB.refl _ _, ?_, hA4, hB4, b64⟩
          rw [modM, modM, beq_iff_eq]
          constructor
          · intro h j hj
            by_cases hjk : j = k
            · subst hjk; exact h
            · exact hsame.1 ht j (by omega)
          · intro h; exact h k (by omega)
        · refine ⟨⟨fun h => (by cases h), fun h => ?_⟩, hA4, hB4, b64⟩
          rw [hsame.2 fun j hj => h j (by omega)] at hf
          cases hf
    · obtain rfl : k = 4 := by omega
      refine ⟨x0, hX.cell0 0 rfl, hX.has (by simp), hX.frozen 0, ?_⟩
      intro w68
      have e68 : w68 = w63.setCell ⟨w.heap.size, 0, none⟩ (.int .i64 (IntKind.wrap .i64 (x0 + 4294967296))) := rfl
      clear_value w68
      subst e68
      have hX8 := hX.set 0 (.int .i64 (IntKind.wrap .i64 (x0 + 4294967296)))
      have hA8 := hA.far (p := ⟨w.heap.size, 0, none⟩) (show ga ≠ w.heap.size by omega) (.int .i64 (IntKind.wrap .i64 (x0 + 4294967296)))
      have hB8 := hBb.far (p := ⟨w.heap.size, 0, none⟩) (show gb ≠ w.heap.size by omega) (.int .i64 (IntKind.wrap .i64 (x0 + 4294967296)))
      have b8 := (b2.trans (b63.mono (by omega))).setCell (p := ⟨w.heap.size, 0, none⟩) (Nat.le_refl _) (.int .i64 (IntKind.wrap .i64 (x0 + 4294967296)))
      generalize w63.setCell ⟨w.heap.size, 0, none⟩ (.int .i64 (IntKind.wrap .i64 (x0 + 4294967296))) = w68 at *
      intro w69
      have hX9 : Blk w69 w.heap.size Ty_4_int [Value.int .i64 (IntKind.wrap .i64 (x0 + 4294967296)), .int .i64 x1, .int .i64 x2, .int .i64 x3].toArray := hX8
      have hA9 : Blk w69 ga Ty_4_int [Value.int .i64 (qi x0 x1 x2 x3).a, .int .i64 (qi x0 x1 x2 x3).b, .int .i64 (qi x0 x1 x2 x3).c, .int .i64 (qi x0 x1 x2 x3).d].toArray := hA8
      have hB9 : Blk w69 gb Ty_4_int [Value.int .i64 (qi y0 y1 y2 y3).a, .int .i64 (qi y0 y1 y2 y3).b, .int .i64 (qi y0 y1 y2 y3).c, .int .i64 (qi y0 y1 y2 y3).d].toArray := hB8
      have b9 : Below w.heap.size w w69 := b8.drew
      clear_value w69
      refine ⟨(· < w69.heap.size), ?_⟩
      refine (awake_ok w69 (hT.below b9)).mono ?_
      rintro _ w70 ⟨rfl, b70⟩
      refine ⟨_, rfl, b70.keeps, bsplit_intro (fun _ => ?_) (fun h => by cases h)⟩
      refine ⟨hA9.lt, _, _, _, _, blk_cellsAll hA9, hB9.lt, _, _, _, _, blk_cellsAll hB9, ?_⟩
      refine eqP_arr (xs := (qi x0 x1 x2 x3).list) (ys := (qi y0 y1 y2 y3).list) (n := 4) (e := Ty_int) (k' := .i64) (by kernel_rfl) (by kernel_rfl) (by kernel_rfl) (by kernel_rfl) (by kernel_rfl) rfl rfl ?_
      have key : (decide ((qi x0 x1 x2 x3).list = (qi y0 y1 y2 y3).list) == same) = true := by
        rw [beq_iff_eq, Bool.eq_iff_iff, decide_eq_true_iff, hsame]
        constructor
        · intro h
          have e : (qi x0 x1 x2 x3).a = (qi y0 y1 y2 y3).a ∧ (qi x0 x1 x2 x3).b = (qi y0 y1 y2 y3).b ∧ (qi x0 x1 x2 x3).c = (qi y0 y1 y2 y3).c ∧ (qi x0 x1 x2 x3).d = (qi y0 y1 y2 y3).d := by
            simp only [Q4.list, List.cons.injEq, and_true] at h; exact h
          obtain ⟨i0, i1, i2, i3⟩ := qr_inj (w32_range x0) (w32_range x1) (w32_range x2) (w32_range x3) (w32_range y0) (w32_range y1) (w32_range y2) (w32_range y3) e.1 e.2.1 e.2.2.1 e.2.2.2
          intro j hj
          rcases (show j = 0 ∨ j = 1 ∨ j = 2 ∨ j = 3 by omega) with rfl | rfl | rfl | rfl
          · exact i0
          · exact i1
          · exact i2
          · exact i3
        · intro h
          have i0 : w32 x0 = w32 y0 := h 0 (by decide)
          have i1 : w32 x1 = w32 y1 := h 1 (by decide)
          have i2 : w32 x2 = w32 y2 := h 2 (by decide)
          have i3 : w32 x3 = w32 y3 := h 3 (by decide)
          unfold qi
          rw [i0, i1, i2, i3]
      refine bsplit_intro (fun _ => ?_) (fun h => by rw [key] at h; cases h)
      refine ⟨hX9.lt, _, _, _, _, blk_cellsAll hX9, hA9.lt, _, _, _, _, blk_cellsAll hA9, ?_⟩
      refine (Quarter_ok _ _ _ _ w70).mono ?_
      rintro _ w71 ⟨rfl, b71⟩
      have b971 := below_step b70 (Nat.le_refl _) b71
      refine ⟨_, _, _, _, rfl, b971.keeps, ?_⟩
      have e0 : w32 (IntKind.wrap .i64 (x0 + 4294967296)) = w32 x0 := by
        unfold w32; rw [IntKind.wrap_u32, IntKind.wrap_u32, IntKind.wrap_i64]; omega
      have eq : qi (IntKind.wrap .i64 (x0 + 4294967296)) x1 x2 x3 = qi x0 x1 x2 x3 := by unfold qi; rw [e0]
      rw [eq]
      refine eqP_arr (xs := (qi x0 x1 x2 x3).list) (ys := (qi x0 x1 x2 x3).list) (n := 4) (e := Ty_int) (k' := .i64) (by kernel_rfl) (by kernel_rfl) (by kernel_rfl) (by kernel_rfl) (by kernel_rfl) rfl rfl ?_
      exact ⟨by simp, below_step b9 (Nat.le_refl _) b971⟩
  · intro w3
    have hX3 : Blk w3 w.heap.size Ty_4_int [Value.int .i64 x0, .int .i64 x1, .int .i64 x2, .int .i64 x3].toArray := hX2
    have hY3 : Blk w3 w1.heap.size Ty_4_int [Value.int .i64 y0, .int .i64 y1, .int .i64 y2, .int .i64 y3].toArray := hY2
    have hs3 : w3.heap.size = w2.heap.size := rfl
    have b3 : Below w2.heap.size w2 w3 := (Below.refl _ _).drew
    clear_value w3
    have hI : Inv w3 [] w3 := ⟨.refl _ _, fun g hg => by simp at hg, List.nodup_nil⟩
    refine ⟨(· < w3.heap.size), hX3.lt, _, _, _, _, blk_cellsAll hX3, hY3.lt, _, _, _, _, blk_cellsAll hY3, ?_⟩
    repeat' (first
      | exact True.intro
      | with_reducible exact Inv.keeps (by assumption)
      | (with_reducible refine Inv.quarter (by assumption) fun wN hN => ?_; refine ⟨_, _, _, _, rfl, ?_⟩)
      | (intro wN; have hN : Inv w3 _ wN := Inv.alloc (by assumption); clear_value wN)
      | with_reducible refine And.intro ?_ ?_
      | exact Inv.fin (by assumption) fun w' hb la lb hA hB => ⟨_, _, rfl, rfl, by omega, by omega, hA, hB, b3.trans (hb.mono (by omega))⟩
      | exact Inv.fin (Inv.swap (by assumption)) fun w' hb la lb hA hB => ⟨_, _, rfl, rfl, by omega, by omega, hA, hB, b3.trans (hb.mono (by omega))⟩)
end
end Go.Proofs.YtblfbanfepocnaaDoor
