import Derived.Test.YtelkdacpehdllaaW18j
import Derived.Test.YtelkdacpehdllaaP18r
import Derived.Test.YtelkdacpehdllaaEl
import Derived.Test.YtelkdacpehdllaaEq3
namespace Go.Proofs.Ytelkdacpehdllaa
open Go.Sx Go.RowKit

def encR (x : Rg) : List Value := [.int .i64 x.sn, .int .i64 x.f, .int .i64 x.t]
theorem encR_ok : Enc encR 3 := ⟨fun _ => rfl, fun _ => rfl⟩
theorem eqP_range {x y : Operand} {a b : Rg} {F : Bool → Prop} (h : F (decide (a ≠ b))) : EqP Try.prog .neq Ty_api_Range x y (.agg #[.int .i64 a.sn, .int .i64 a.f, .int .i64 a.t]) (.agg #[.int .i64 b.sn, .int .i64 b.f, .int .i64 b.t]) F := by
  refine eqP_ints (k' := .i64) (e := Ty_int) (xs := [a.sn, a.f, a.t]) (ys := [b.sn, b.f, b.t]) (by kernel_rfl) (by kernel_rfl) (by kernel_rfl) (by kernel_rfl) (by kernel_rfl) (by kernel_rfl) rfl ?_
  have e : (!decide ([a.sn, a.f, a.t] = [b.sn, b.f, b.t])) = decide (a ≠ b) := by
    rw [← decide_not, decide_eq_decide]
    cases a; cases b; simp
  rw [e]; exact h
section
variable {l_a b_a : Option Addr} {l m : List Rg} {l_c b_c : Nat} {k : Int} {w : World}
theorem segment_Normal_ct (hs : SlR (CE encR) 3 w l_a l) (hl : l.length ≤ 140737488355328) :
    Calls Try.prog N_segment_Normal #[(.slice l_a l.length l_c)] w fun e w' => e = .returned (.bool (normB (-1) l)) ∧ Below w.heap.size w w' := by
  apply F_segment_Normal_ok
  unfold F_segment_Normal
  have H := St.nil w
  refine ⟨fun x => ((l.length - x).toNat, fun w1 => ∃ k : Nat, k ≤ l.length ∧ x = k ∧ normB (-1) l = normB (prevT l k) (l.drop k) ∧ -1 ≤ prevT l k ∧ FreshR w w1 []), ⟨0, by omega, rfl, rfl, Int.le_refl _, H⟩, ?_⟩ --! I (0 : Int)
  clear H
  rintro _ x w1 ⟨k, hk, rfl, hI, hpv, H1⟩
  refine bsplit_dec (fun c4 => ?_) (fun c4 => ?_) --  (decide (x < (l_l : Int)))
  · have hlt : k < l.length := by omega
    rw [normB_drop _ _ _ hlt] at hI
    have hp : prevT l k = -1 ∨ 0 < k := by rcases k with _ | k <;> simp [prevT]
    refine ixE (hs.belowE H1.below) k rfl hlt fun b s hsk hb => ?_
    obtain rfl : l[k] = s := by rw [List.getElem?_eq_getElem hlt] at hsk; injection hsk
    refine ⟨_, _, _, hb, ?_⟩
    refine H1.alloc ?_; clear H1; intro b1 w2 H2
    refine H2.store (i := 0) rfl (by rfl) (by rfl) ?_; clear H2; intro w3 H3
    refine H3.drew ?_; clear H3; intro w4 H4
    have no : (l[k].f < 0 ∨ l[k].f ≥ l[k].t ∨ (0 < k ∧ l[k].f ≤ prevT l k)) → normB (-1) l = false := fun h => by
      rw [hI, decide_eq_false, Bool.false_and]
      rintro ⟨h1, h2⟩
      rcases h with h | h | h
      · omega
      · omega
      · omega
    have go : ∀ {w5 : World}, St (fun _ => False) [] w w5 [.blk b1 Ty_api_Range (encR l[k])] (fun _ => True) → 0 ≤ l[k].f → l[k].f < l[k].t → (0 < k → prevT l k < l[k].f) → ∃ k2 : Nat, k2 ≤ l.length ∧ (k : Int) + 1 = k2 ∧ normB (-1) l = normB (prevT l k2) (l.drop k2) ∧ -1 ≤ prevT l k2 ∧ FreshR w w5 [] := fun H5 h1 h2 h3 => by
      refine ⟨k + 1, by omega, by omega, ?_, by rw [prevT_succ hlt]; omega, H5.fin⟩
      rw [hI, prevT_succ hlt, decide_eq_true, Bool.true_and]
      refine ⟨?_, h2⟩
      rcases hp with hp | hp
      · omega
      · exact h3 hp
    refine H4.ld (i := 0) rfl rfl ?_
    refine bsplit_dec (fun c3 => ?_) (fun c3 => ?_) --  (decide (x_1 < (0 : Int)))
    · exact ⟨by rw [no (.inl c3)], H4.below⟩ --! (.bool false)
    refine H4.ld (i := 0) rfl rfl ?_
    refine H4.ld (i := 0) rfl rfl ?_
    refine bsplit_dec (fun c2 => ?_) (fun c2 => ?_) --  (decide (x_1 ≥ x_2))
    · exact ⟨by rw [no (.inr (.inl c2))], H4.below⟩ --! (.bool false)
    refine bsplit_dec (fun c1 => ?_) (fun c1 => ?_) --  (decide (x > (0 : Int)))
    · refine H4.ld (i := 0) rfl rfl ?_
      refine kW_i64 (by omega) ?_ -- x - (1 : Int)
      refine ixE (hs.belowE H4.below) (k - 1) (by omega) (by omega) fun b s hsk hb => ?_
      refine ld_at hb 2 rfl ?_
      have hs2 : s.t = prevT l k := by
        rcases k with _ | k
        · omega
        · simp only [Nat.add_sub_cancel] at hsk
          simp [prevT, hsk]
      refine bsplit_dec (fun c => ?_) (fun c => ?_) --  (decide (x_1 ≤ x6))
      · exact ⟨by rw [no (.inr (.inr ⟨by omega, by rw [← hs2]; exact c⟩))], H4.below⟩ --! (.bool false)
      · refine kW_i64 (by omega) ?_ -- x + (1 : Int)
        exact ⟨go H4 (by omega) (by omega) fun _ => by omega, by dsimp only; omega⟩ --! I (x + (1 : Int))
    · refine kW_i64 (by omega) ?_ -- x + (1 : Int)
      exact ⟨go H4 (by omega) (by omega) fun h => by omega, by dsimp only; omega⟩ --! I (x + (1 : Int))
  · obtain rfl : k = l.length := by omega
    rw [List.drop_length] at hI
    exact ⟨by rw [hI]; rfl, H1.below⟩ --! (.bool true)
theorem ref18_SameRanges_ct (hs : SlR (CE encR) 3 w l_a l) (hm : SlR (CE encR) 3 w b_a m) (hl : l.length ≤ 140737488355328) :
    Calls Try.prog N_ref18_SameRanges #[(.slice l_a l.length l_c), (.slice b_a m.length b_c)] w fun e w' => e = .returned (.bool (decide (l = m))) ∧ Below w.heap.size w w' := by
  apply F_ref18_SameRanges_ok
  unfold F_ref18_SameRanges
  have H := St.nil w
  refine bsplit_nd (fun c2 => ?_) (fun c2 => ?_) --  (!decide ((a_l : Int) = (b_l : Int)))
  · exact ⟨retF (fun h => by subst h; omega), H.below⟩ --! (.bool false)
  · have hlen : l.length = m.length := by omega
    refine ⟨fun i => ((l.length - i).toNat, fun w1 => ∃ k : Nat, k ≤ l.length ∧ i = k ∧ l.take k = m.take k ∧ FreshR w w1 []), ⟨0, by omega, rfl, rfl, H⟩, ?_⟩ --! I (0 : Int)
    clear H
    rintro _ i w1 ⟨k, hk, rfl, hI, H1⟩
    refine bsplit_dec (fun c1 => ?_) (fun c1 => ?_) --  (decide (i < (a_l : Int)))
    · have hlt : k < l.length := by omega
      have hlt2 : k < m.length := by omega
      refine H1.drew ?_; clear H1; intro w2 H2
      refine ixE (hs.belowE H2.below) k rfl hlt fun b s hsk hb => ?_
      obtain rfl : l[k] = s := by rw [List.getElem?_eq_getElem hlt] at hsk; injection hsk
      refine ⟨_, _, _, hb, ?_⟩
      refine ixE (hm.belowE H2.below) k rfl hlt2 fun b' s hsk hb' => ?_
      obtain rfl : m[k] = s := by rw [List.getElem?_eq_getElem hlt2] at hsk; injection hsk
      refine ⟨_, _, _, hb', ?_⟩
      refine eqP_range ?_
      refine bsplit_dec (fun c => ?_) (fun c => ?_) --  r
      · exact ⟨retF (fun e => c (by subst e; rfl)), H2.below⟩ --! (.bool false)
      · refine kW_i64 (by omega) ?_ -- i + (1 : Int)
        refine ⟨⟨k + 1, by omega, by omega, ?_, H2⟩, by dsimp only; omega⟩ --! I (i + (1 : Int))
        rw [List.take_add_one, List.take_add_one, hI, List.getElem?_eq_getElem hlt, List.getElem?_eq_getElem hlt2, Decidable.not_not.1 c]
    · obtain rfl : k = l.length := by omega
      rw [List.take_length, hlen, List.take_length] at hI
      exact ⟨retT hI, H1.below⟩ --! (.bool true)
theorem law18_covers_ct (hs : SlR (CE encR) 3 w l_a l) (hl : l.length ≤ 140737488355328) :
    Calls Try.prog N_law18_covers #[(.slice l_a l.length l_c), (.int .i64 k)] w fun e w' => e = .returned (.bool (covB k l)) ∧ Below w.heap.size w w' := by
  apply F_law18_covers_ok
  unfold F_law18_covers
  have H := St.nil w
  refine ⟨fun i => ((l.length - i).toNat, fun w1 => ∃ j : Nat, j ≤ l.length ∧ i = j ∧ covB k l = covB k (l.drop j) ∧ FreshR w w1 []), ⟨0, by omega, rfl, rfl, H⟩, ?_⟩ --! I (0 : Int)
  clear H
  rintro _ i w1 ⟨j, hj, rfl, hI, H1⟩
  refine bsplit_dec (fun c2 => ?_) (fun c2 => ?_) --  (decide (i < (l_l : Int)))
  · have hlt : j < l.length := by omega
    rw [covB_drop _ _ _ hlt] at hI
    refine ixE (hs.belowE H1.below) j rfl hlt fun b s hsk hb => ?_
    obtain rfl : l[j] = s := by rw [List.getElem?_eq_getElem hlt] at hsk; injection hsk
    refine ld_at hb 1 rfl ?_
    refine bsplit_dec (fun c1 => ?_) (fun c1 => ?_) --  (decide (k ≥ x))
    · refine ixE (hs.belowE H1.below) j rfl hlt fun b s hsk hb => ?_
      obtain rfl : l[j] = s := by rw [List.getElem?_eq_getElem hlt] at hsk; injection hsk
      refine ld_at hb 2 rfl ?_
      refine bsplit_dec (fun c => ?_) (fun c => ?_) --  (decide (k < x1))
      · rw [decide_eq_true (show l[j].f ≤ k ∧ k < l[j].t from ⟨c1, c⟩), Bool.true_or] at hI
        exact ⟨by rw [hI], H1.below⟩ --! (.bool true)
      · rw [decide_eq_false (show ¬ (l[j].f ≤ k ∧ k < l[j].t) from fun h => c h.2), Bool.false_or] at hI
        refine kW_i64 (by omega) ?_ -- i + (1 : Int)
        exact ⟨⟨j + 1, by omega, by omega, hI, H1⟩, by dsimp only; omega⟩ --! I (i + (1 : Int))
    · rw [decide_eq_false (show ¬ (l[j].f ≤ k ∧ k < l[j].t) from fun h => c1 h.1), Bool.false_or] at hI
      refine kW_i64 (by omega) ?_ -- i + (1 : Int)
      exact ⟨⟨j + 1, by omega, by omega, hI, H1⟩, by dsimp only; omega⟩ --! I (i + (1 : Int))
  · obtain rfl : j = l.length := by omega
    rw [List.drop_length] at hI
    exact ⟨by rw [hI]; rfl, H1.below⟩ --! (.bool false)
end
end Go.Proofs.Ytelkdacpehdllaa
