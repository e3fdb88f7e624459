import Derived.Test.YtamkmafmhglfkaaFormsN
import Derived.Test.YtamkmafmhglfkaaW26f
import Derived.Test.YtamkmafmhglfkaaSt
import Derived.Test.YtamkmafmhglfkaaTys
import Derived.Test.YtamkmafmhglfkaaBt
import Derived.Test.YtamkmafmhglfkaaEl
namespace Go.Proofs.Ytamkmafmhglfkaa
open Go.Sx Go.RowKit
set_option maxRecDepth 100000

/-! ## Chapter 26: the reference -/
theorem bd_two : ∀ k : Nat, k < 15 → 1 ≤ k → k < 14 → 2 * bd k = bd (k + 1) := by decide
theorem bd_small : ∀ k : Nat, k < 16 → 0 ≤ bd k ∧ bd k ≤ 1048576 := by decide

theorem ref26_Bound_ct {level : Int} {w : World} :
    Calls Try.prog N_ref26_Bound #[(.int .i64 level)] w fun e w' => e = .returned (.int .i64 (bound level)) ∧ Below w.heap.size w w' := by
  apply F_ref26_Bound_ok
  unfold F_ref26_Bound
  have H := St.nil w
  refine ⟨fun x1 w1 => St (fun _ => False) [] w w1 [] (fun _ => True) ∧ (x1 = true ↔ level < 0 ∨ 15 < level), ?_, ?_⟩
  · rintro _ x1 w1 ⟨H1, hj⟩
    refine bsplit_intro (fun c4 => ?_) (fun c4 => ?_) --  x1
    · exact ⟨by rw [bound, if_pos (hj.1 c4)], H1.below⟩
    · have hr : ¬ (level < 0 ∨ 15 < level) := fun h => by rw [hj.2 h] at c4; cases c4
      refine kLet_in ?_
      refine bsplit_dec (fun c3 => ?_) (fun c3 => ?_) --  (decide (level = (0 : Int)))
      · exact ⟨by rw [bound, if_neg hr, c3]; rfl, H1.below⟩
      · refine kLet_in ?_
        refine bsplit_dec (fun c2 => ?_) (fun c2 => ?_) --  (decide (level = (15 : Int)))
        · exact ⟨by rw [bound, if_neg hr, c2]; rfl, H1.below⟩
        · refine ⟨fun n i => ((level - i).toNat, fun w2 => ∃ k : Nat, i = k ∧ n = bd k ∧ 1 ≤ k ∧ (k : Int) ≤ level ∧ St (fun _ => False) [] w w2 [] (fun _ => True)), ⟨1, rfl, rfl, by omega, by omega, H1⟩, ?_⟩
          clear H1
          rintro _ n i w2 ⟨k, rfl, rfl, hk1, hk2, H2⟩
          have hs := bd_small k (by omega)
          refine bsplit_dec (fun c1 => ?_) (fun c1 => ?_) --  (decide (i < level))
          · refine kW_i64 (by omega) ?_ -- (2 : Int) * n
            refine kW_i64 (by omega) ?_ -- i + (1 : Int)
            exact ⟨⟨k + 1, by omega, bd_two k (by omega) hk1 (by omega), by omega, by omega, H2⟩, by dsimp only; omega⟩
          · exact ⟨by rw [bound, if_neg hr, show level.toNat = k by omega], H2.below⟩
  · refine bsplit_dec (fun c => ?_) (fun c => ?_) --  (decide (level < (0 : Int)))
    · exact ⟨H, by simp [c]⟩
    · refine kLet_in ?_
      exact ⟨H, by simp only [decide_eq_true_eq]; omega⟩

theorem ref26_Level_ct {n : Int} {w : World} :
    Calls Try.prog N_ref26_Level #[(.int .i64 n)] w fun e w' => e = .returned (.int .i64 (lev n)) ∧ Below w.heap.size w w' := by
  apply F_ref26_Level_ok
  unfold F_ref26_Level
  have H := St.nil w
  refine ⟨fun i => ((15 - i).toNat, fun w1 => ∃ k : Nat, i = k ∧ k ≤ 15 ∧ (∀ j, j < k → bd j < n) ∧ St (fun _ => False) [] w w1 [] (fun _ => True)), ⟨0, rfl, by omega, fun j h => by omega, H⟩, ?_⟩
  clear H
  rintro _ i w1 ⟨k, rfl, hk, hlt, H1⟩
  refine bsplit_dec (fun c1 => ?_) (fun c1 => ?_) --  (decide (i < (15 : Int)))
  · refine ref26_Bound_ct.mono ?_ -- (.int .i64 i)
    rintro _ w2 ⟨rfl, hb2⟩; have H2 := H1.pass hb2; clear H1
    refine ⟨_, rfl, ?_⟩
    have hb : bound (k : Int) = bd k := by rw [bound, if_neg (by omega), Int.toNat_natCast]
    rw [hb]
    refine bsplit_dec (fun c => ?_) (fun c => ?_) --  (decide (r ≥ n))
    · exact ⟨by rw [lev_eq (by omega) hlt c], H2.below⟩
    · refine kW_i64 (by omega) ?_ -- i + (1 : Int)
      exact ⟨⟨k + 1, by omega, by omega, fun j hj => by
        rcases Nat.lt_or_ge j k with h | h
        · exact hlt j h
        · rw [show j = k by omega]; omega, H2⟩, by dsimp only; omega⟩
  · obtain rfl : k = 15 := by omega
    refine ⟨?_, H1.below⟩
    rw [lev_at (k := 15) (by omega) hlt]
    simp only [levFrom]
    split <;> rfl

/-! ### an array of four numbers -/
def aL (f : Nat → Int) : List Value := (List.range 4).map fun j => Value.int .i64 (f j)
theorem aL_get {f : Nat → Int} {j : Nat} (h : j < 4) : (aL f)[j]? = some (.int .i64 (f j)) := by simp [aL, h]
theorem aL_len (f : Nat → Int) : (aL f).length = 4 := by simp [aL]
theorem aL_set {f : Nat → Int} {j : Nat} (v : Int) : (aL f).set j (.int .i64 v) = aL fun i => if i = j then v else f i := by
  apply List.ext_getElem?
  intro i
  rw [List.getElem?_set]
  by_cases h : j = i
  · subst h
    by_cases hj : j < 4
    · simp [aL, hj]
    · simp [aL, hj]
  · rw [if_neg h]
    by_cases hi : i < 4
    · simp [aL, hi, show i ≠ j from fun e => h e.symm]
    · simp [aL, hi]
theorem aL_congr {f g : Nat → Int} (h : ∀ j, j < 4 → f j = g j) : aL f = aL g := by
  have h0 := h 0 (by omega); have h1 := h 1 (by omega); have h2 := h 2 (by omega); have h3 := h 3 (by omega)
  simp [aL, List.range_succ, h0, h1, h2, h3]
theorem aL_arr (f : Nat → Int) : (Value.agg #[.int .i64 (f 0), .int .i64 (f 1), .int .i64 (f 2), .int .i64 (f 3)]) = .agg (arrN .i64 4 f) := rfl
theorem ad0 (b n : Nat) : (⟨b, 0, none⟩ : Addr).add (n * 1) = ⟨b, n, none⟩ := by rw [add_mk]; simp

theorem ref24_SameBytes_ct {a_a b_a : Option Addr} {xs ys : List Int} {a_c b_c : Nat} {w : World} (hx : SlR (IntC .u8) 1 w a_a xs) (hy : SlR (IntC .u8) 1 w b_a ys) (hl : xs.length ≤ 140737488355328) :
    Calls Try.prog N_ref24_SameBytes #[(.slice a_a xs.length a_c), (.slice b_a ys.length b_c)] w fun e w' => e = .returned (.bool (decide (xs = ys))) ∧ Below w.heap.size w w' := by
  apply F_ref24_SameBytes_ok
  unfold F_ref24_SameBytes
  have H := St.nil w
  refine bsplit_nd (fun c2 => ?_) (fun c2 => ?_) --  (!decide ((a_l : Int) = (b_l : Int)))
  · exact ⟨retF (fun h => c2 (by rw [h])), H.below⟩ --! (.bool false)
  have hle : xs.length = ys.length := by omega
  refine ⟨fun i => ((xs.length - i).toNat, fun w1 => ∃ k : Nat, k ≤ xs.length ∧ i = k ∧ xs.take k = ys.take k ∧ FreshR w w1 []), ⟨0, by omega, rfl, rfl, H⟩, ?_⟩ --! I (0 : Int)
  clear H
  rintro _ i w1 ⟨k, hk, rfl, ht, H1⟩
  refine bsplit_dec (fun c1 => ?_) (fun c1 => ?_) --  (decide (i < (a_l : Int)))
  · have hlt : k < xs.length := by omega
    have hlt2 : k < ys.length := by omega
    refine H1.drew ?_; clear H1; intro w2 H2
    refine ixE (hx.below H2.below) k rfl hlt fun b x hsk hb => ?_
    refine ⟨_, hb, ?_⟩
    refine ixE (hy.below H2.below) k rfl hlt2 fun b2 y hsk2 hb2 => ?_
    refine ⟨_, hb2, ?_⟩
    refine bsplit_nd (fun c => ?_) (fun c => ?_) --  (!decide (x = x1))
    · exact ⟨retF (fun h => c (by subst h; rw [hsk] at hsk2; injection hsk2)), H2.below⟩ --! (.bool false)
    · refine kW_i64 (by omega) ?_ -- i + (1 : Int)
      refine ⟨⟨k + 1, by omega, by omega, ?_, H2⟩, by dsimp only; omega⟩ --! I (i + (1 : Int))
      rw [List.take_add_one, List.take_add_one, ht, hsk, hsk2, c]
  · obtain rfl : k = xs.length := by omega
    rw [List.take_length, hle, List.take_length] at ht
    exact ⟨retT ht, H1.below⟩ --! (.bool true)

section
variable {a b : Option Addr} {c1 c2 : Nat} {ws gs : List Int} {w : World}
theorem ref26_Of_ct (ha : SlR (IntC .i64) 1 w a ws) (hb : SlR (IntC .i64) 1 w b gs) :
    Calls Try.prog N_ref26_Of #[.slice a ws.length c1, .slice b gs.length c2] w fun e w' =>
      e = .returned (.tuple #[.agg (arrN .i64 4 (ofL ws gs)), .int .i64 (ofE ws gs)]) ∧ Below w.heap.size w w' := by
  apply F_ref26_Of_ok
  unfold F_ref26_Of
  have H := St.nil w
  refine H.alloc ?_; clear H; intro b0 w1 H1
  replace H1 : St (fun _ => False) [] w w1 [.blk b0 Ty_api_Waiting (aL fun _ => 0)] (fun _ => True) := H1
  -- a refusal
  have out : ∀ {w' : World} {R : List Res} {E : Int}, St (fun _ => False) [] w w' R (fun _ => True) → R[0]? = some (.blk b0 Ty_api_Waiting (aL fun _ => 0)) → ofE ws gs = E → E ≠ 0 →
      sxStore w' ⟨b0, 0, none⟩ 0 [(.int .i64 (0 : Int)), (.int .i64 (0 : Int)), (.int .i64 (0 : Int)), (.int .i64 (0 : Int))] fun w2 =>
        ∃ r_0 : Int, ∃ r_1 : Int, ∃ r_2 : Int, ∃ r_3 : Int, cellsAt w2 ⟨b0, 0, none⟩ 0 [(.int .i64 r_0), (.int .i64 r_1), (.int .i64 r_2), (.int .i64 r_3)] ∧
          (Ending.returned (.tuple #[(.agg #[.int .i64 r_0, .int .i64 r_1, .int .i64 r_2, .int .i64 r_3]), (.int .i64 E)]) = .returned (.tuple #[.agg (arrN .i64 4 (ofL ws gs)), .int .i64 (ofE ws gs)]) ∧ Below w.heap.size w w2) := by
    intro w' R E H hR hE hne
    refine H.store hR (by rfl) (by rfl) ?_; intro w2 H2
    have hi : (R.set 0 (.blk b0 Ty_api_Waiting [(.int .i64 (0 : Int)), (.int .i64 (0 : Int)), (.int .i64 (0 : Int)), (.int .i64 (0 : Int))]))[0]? = some (.blk b0 Ty_api_Waiting [(.int .i64 (0 : Int)), (.int .i64 (0 : Int)), (.int .i64 (0 : Int)), (.int .i64 (0 : Int))]) := by
      have := (List.getElem?_eq_some_iff.1 hR).1
      simp [this]
    refine ⟨_, _, _, _, H2.cells hi, ?_, H2.below⟩
    rw [arrN_congr (t := fun _ => 0) (fun i _ => by rw [ofL, if_neg (by omega)]), hE]; rfl
  refine ⟨fun w4 => St (fun _ => False) [] w w4 [.blk b0 Ty_api_Waiting (aL fun _ => 0)] (fun _ => True) ∧ ws.length ≤ 8 ∧ ws.length = gs.length, ?_, ?_⟩
  · rintro _  w4 ⟨H4, hl8, hll⟩
    refine H4.alloc ?_; clear H4; intro b1 w5 H5
    refine ⟨fun i => ((ws.length - i).toNat, fun w6 => ∃ k : Nat, i = k ∧ k ≤ ws.length ∧ (∀ i (h1 : i < ws.length) (h2 : i < gs.length), i < k → ¬ badAt ws[i] gs[i]) ∧
      St (fun _ => False) [] w w6 [.blk b0 Ty_api_Waiting (aL fun _ => 0), .blk b1 Ty_4_int (aL fun j => sumG (ws.take k) (gs.take k) j)] (fun _ => True)), ⟨0, rfl, by omega, fun i _ _ h => by omega, H5⟩, ?_⟩
    clear H5
    rintro _ i w6 ⟨k, rfl, hk, hgood, H6⟩
    refine bsplit_dec (fun c7 => ?_) (fun c7 => ?_) --  (decide (i < (waiting_l : Int)))
    · have hlt : k < ws.length := by omega
      have hlt2 : k < gs.length := by omega
      refine ⟨fun x4 w7 => St (fun _ => False) [] w w7 [.blk b0 Ty_api_Waiting (aL fun _ => 0), .blk b1 Ty_4_int (aL fun j => sumG (ws.take k) (gs.take k) j)] (fun _ => True) ∧ (x4 = true ↔ badAt ws[k] gs[k]), ?_, ?_⟩
      · rintro _ x4 w7 ⟨H7, hj⟩
        refine bsplit_intro (fun c5 => ?_) (fun c5 => ?_) --  x4
        · exact out H7 rfl (by rw [ofE, if_neg (by omega), if_pos ⟨k, hlt, by rw [getD_at hlt, getD_at hlt2]; exact hj.1 c5⟩]) (by decide)
        · have hnb : ¬ badAt ws[k] gs[k] := fun hc => by rw [hj.2 hc] at c5; cases c5
          have hnb' := hnb
          unfold badAt at hnb'
          have hr := sumG_bound (gs := gs) (k := k) (fun i hi hik => by
            have := hgood i hi (by omega) hik; unfold badAt at this; omega) hk (by omega)
          have hg := hr gs[k].toNat
          refine H7.drew ?_; clear H7; intro w9 H9
          obtain ⟨p, rfl, hp⟩ := (ha.below H9.below).get hlt
          obtain ⟨q, rfl, hq⟩ := (hb.below H9.below).get hlt2
          refine ⟨q, rfl, ⟨by omega, by omega⟩, ?_⟩
          refine ⟨_, hq, ?_⟩
          refine ⟨⟨by omega, by omega⟩, ?_⟩
          refine ⟨_, by rw [ad0]; exact H9.cell (i := 1) rfl (aL_get (by omega)), ?_⟩
          refine ⟨p, rfl, ⟨by omega, by omega⟩, ?_⟩
          refine ⟨_, hp, ?_⟩
          refine kW_i64 (by omega) ?_ -- x6 + x7
          refine ⟨⟨by omega, by omega⟩, ?_⟩
          rw [ad0]
          refine H9.set (i := 1) rfl (by rw [aL_len]; omega) ?_; clear H9; intro w10 H10
          refine kW_i64 (by omega) ?_ -- i + (1 : Int)
          refine ⟨⟨k + 1, by omega, by omega, fun i hi hi2 hik => ?_, ?_⟩, by dsimp only; omega⟩
          · by_cases hik' : i = k
            · subst hik'; exact hnb
            · exact hgood i hi hi2 (by omega)
          · simp only [List.set_cons_succ, List.set_cons_zero, aL_set] at H10
            rw [aL_congr (f := fun j => sumG (ws.take (k + 1)) (gs.take (k + 1)) j) (g := fun j => if j = gs[k].toNat then sumG (ws.take k) (gs.take k) gs[k].toNat + ws[k] else sumG (ws.take k) (gs.take k) j)]
            · exact H10
            · intro j hj
              rw [sumG_step hlt hlt2]
              by_cases hjg : j = gs[k].toNat
              · rw [if_pos hjg, if_pos (by omega), hjg]
              · rw [if_neg hjg, if_neg (by omega)]; omega
      · obtain ⟨p, rfl, hp⟩ := (ha.below H6.below).get hlt
        obtain ⟨q, rfl, hq⟩ := (hb.below H6.below).get hlt2
        refine ⟨q, rfl, ⟨by omega, by omega⟩, ?_⟩
        refine ⟨_, hq, ?_⟩
        refine bsplit_dec (fun c4 => ?_) (fun c4 => ?_) --  (decide (x < (0 : Int)))
        · exact ⟨H6, by simp [badAt, c4]⟩
        · refine ⟨q, rfl, ⟨by omega, by omega⟩, ?_⟩
          refine ⟨_, hq, ?_⟩
          refine bsplit_dec (fun c3 => ?_) (fun c3 => ?_) --  (decide (x1 > (3 : Int)))
          · exact ⟨H6, by simp [badAt]; omega⟩
          · refine ⟨p, rfl, ⟨by omega, by omega⟩, ?_⟩
            refine ⟨_, hp, ?_⟩
            refine bsplit_dec (fun c2 => ?_) (fun c2 => ?_) --  (decide (x2 < (0 : Int)))
            · exact ⟨H6, by simp [badAt]; omega⟩
            · refine ⟨p, rfl, ⟨by omega, by omega⟩, ?_⟩
              refine ⟨_, hp, ?_⟩
              exact ⟨H6, by simp only [badAt, decide_eq_true_eq]; omega⟩
    · obtain rfl : k = ws.length := by omega
      have he : ofE ws gs = 0 := by
        rw [ofE, if_neg (by omega), if_neg]
        rintro ⟨i, hi1, hbad⟩
        rw [getD_at hi1, getD_at (show i < gs.length by omega)] at hbad
        exact hgood i hi1 (by omega) hi1 hbad
      rw [List.take_length, List.take_of_length_le (by omega)] at H6
      refine H6.alloc ?_; clear H6; intro b8 w11 H11
      refine H11.store (i := 2) rfl (by rfl) (by rfl) ?_; clear H11; intro w12 H12
      refine ⟨fun i1 => ((4 - i1).toNat, fun w13 => ∃ k : Nat, i1 = k ∧ k ≤ 4 ∧ St (fun _ => False) [] w w13 [.blk b0 Ty_api_Waiting (aL fun _ => 0), .blk b1 Ty_4_int (aL fun j => sumG ws gs j), .blk b8 Ty_api_Waiting (aL fun j => if j < k then ofL ws gs j else 0)] (fun _ => True)), ⟨0, rfl, by omega, H12⟩, ?_⟩
      clear H12
      rintro _ i1 w13 ⟨k, rfl, hk4, H13⟩
      refine bsplit_dec (fun c6 => ?_) (fun c6 => ?_) --  (decide (i1 < (4 : Int)))
      · refine ⟨⟨by omega, by omega⟩, ?_⟩
        refine ⟨_, by rw [ad0]; exact H13.cell (i := 1) rfl (aL_get (by omega)), ?_⟩
        refine ref26_Level_ct.mono ?_ -- (.int .i64 x10)
        rintro _ w14 ⟨rfl, hb14⟩; have H14 := H13.pass hb14; clear H13
        refine ⟨_, rfl, ?_⟩
        refine ⟨⟨by omega, by omega⟩, ?_⟩
        rw [ad0]
        refine H14.set (i := 2) rfl (by rw [aL_len]; omega) ?_; clear H14; intro w15 H15
        refine kW_i64 (by omega) ?_ -- i1 + (1 : Int)
        refine ⟨⟨k + 1, by omega, by omega, ?_⟩, by dsimp only; omega⟩
        simp only [List.set_cons_succ, List.set_cons_zero, aL_set] at H15
        rw [aL_congr (f := fun j => if j < k + 1 then ofL ws gs j else 0) (g := fun j => if j = (k : Int).toNat then ((lev (sumG ws gs ((k : Int).toNat : Nat)) : Nat) : Int) else if j < k then ofL ws gs j else 0)]
        · exact H15
        · intro j hj
          rw [Int.toNat_natCast]
          by_cases hjk : j = k
          · subst hjk; rw [if_pos (by omega), if_pos rfl, ofL, if_pos he]
          · rw [if_neg hjk]
            by_cases h2 : j < k
            · rw [if_pos (by omega), if_pos h2]
            · rw [if_neg (by omega), if_neg h2]
      · obtain rfl : k = 4 := by omega
        rw [aL_congr (f := fun j => if j < 4 then ofL ws gs j else 0) (g := ofL ws gs) (fun j hj => by simp [hj])] at H13
        refine ⟨_, _, _, _, H13.cells (i := 2) rfl, ?_⟩
        refine H13.store (i := 0) rfl (by rfl) (by rfl) ?_; clear H13; intro w16 H16
        refine ⟨_, _, _, _, H16.cells (i := 0) rfl, ?_⟩
        exact ⟨by rw [he]; rfl, H16.below⟩
  · refine bsplit_dec (fun c1 => ?_) (fun c1 => ?_) --  (decide ((waiting_l : Int) > (8 : Int)))
    · exact out H1 rfl (by rw [ofE, if_pos (by omega)]) (by decide)
    · refine bsplit_nd (fun c => ?_) (fun c => ?_) --  (!decide ((waiting_l : Int) = (groups_l : Int)))
      · exact out H1 rfl (by rw [ofE, if_pos (by omega)]) (by decide)
      · exact ⟨H1, by omega, by omega⟩
end
end Go.Proofs.Ytamkmafmhglfkaa
