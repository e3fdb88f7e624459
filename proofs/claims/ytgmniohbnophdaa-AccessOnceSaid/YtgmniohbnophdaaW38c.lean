import Derived.Test.YtgmniohbnophdaaW38b
/- CHAPTER 38: known, find, Preamble, before, has, Check. -/
set_option maxRecDepth 100000
namespace Go.Proofs.Ytgmniohbnophdaa
open Go.Sx Go.RowKit Go.P38
section
variable {w : World} {p : Option Addr} {c : Nat} {l : List At} {id tr pr : Int}
theorem lqs {w : World} {b o : Nat} {k : IntKind} {x : Int} {F : Int → Prop} (h : w.cell? ⟨b, o, none⟩ = some (.int k x)) (hF : F x) : kLd w ⟨b, o, none⟩ k F := ⟨x, h, hF⟩
theorem access_known_ct : Calls Try.prog N_access_known #[(.int .i64 id)] w fun e w' => e = .returned (.bool (decide (0 ≤ id ∧ id < 65536))) ∧ Below w.heap.size w w' := by
  apply F_access_known_ok
  unfold F_access_known
  have H := St.nil w
  refine bsplit_dec (fun c => ?_) (fun c => ?_) --  (decide (identity ≥ (0 : Int)))
  · refine kLet_in ?_
    exact ⟨retD ⟨fun h => ⟨c, h⟩, fun h => h.2⟩, H.below⟩
  · exact ⟨retF fun h => c h.1, H.below⟩
theorem preR_bound (h : 0 ≤ id ∧ id < 65536) (ht : 0 ≤ tr ∧ tr ≤ 32) (hp : 1 ≤ pr ∧ pr ≤ 64) : 0 ≤ Int.tdiv id pr ∧ Int.tdiv id pr ≤ 65535 ∧ 0 ≤ tr * Int.tdiv id pr ∧ tr * Int.tdiv id pr ≤ 32 * 65535 := by
  have h1 : 0 ≤ Int.tdiv id pr := Int.tdiv_nonneg h.1 (by omega)
  have h2 : Int.tdiv id pr ≤ id := Int.tdiv_le_self _ h.1
  have h3 : 0 ≤ tr * Int.tdiv id pr := Int.mul_nonneg ht.1 h1
  have h4 : tr * Int.tdiv id pr ≤ 32 * 65535 := Int.mul_le_mul ht.2 (by omega) h1 (by omega)
  exact ⟨h1, by omega, h3, h4⟩
theorem preR_ge (id tr pr : Int) : 0 ≤ preR id tr pr := by
  unfold preR
  split
  · omega
  · rename_i h
    obtain ⟨h1, h2, h3, h4⟩ := preR_bound (id := id) (tr := tr) (pr := pr) (by omega) (by omega) (by omega)
    exact Int.tmod_nonneg _ (by omega)
theorem access_Preamble_ct : Calls Try.prog N_access_Preamble #[(.int .i64 id), (.int .i64 tr), (.int .i64 pr)] w fun e w' => e = .returned (.int .i64 (preR id tr pr)) ∧ Below w.heap.size w w' := by
  apply F_access_Preamble_ok
  unfold F_access_Preamble
  have H := St.nil w
  refine ⟨fun x w2 => St (fun _ => False) [] w w2 [] (fun _ => True) ∧ (x = true ↔ pr < 1 ∨ pr > 64 ∨ id < 0 ∨ id ≥ 65536 ∨ tr < 0 ∨ tr > 32), ?_, ?_⟩
  · rintro _ x w2 ⟨H2, hj⟩
    refine bsplit_intro (fun c4 => ?_) (fun c4 => ?_) --  x
    · exact ⟨by rw [preR, if_pos (hj.1 c4)], H2.below⟩
    · have hn : ¬ (pr < 1 ∨ pr > 64 ∨ id < 0 ∨ id ≥ 65536 ∨ tr < 0 ∨ tr > 32) := fun h => by rw [hj.2 h] at c4; cases c4
      obtain ⟨h1, h2, h3, h4⟩ := preR_bound (id := id) (tr := tr) (pr := pr) (by omega) (by omega) (by omega)
      refine kW_i64 (by omega) ?_
      refine kW_i64 (by omega) ?_
      refine ⟨by omega, ?_⟩
      refine kW_i64 (by omega) ?_
      refine kW_i64 (by omega) ?_
      refine kW_i64 (by omega) ?_
      refine ⟨by omega, ?_⟩
      refine kLet_in ?_
      exact ⟨by rw [preR, if_neg hn], H2.below⟩
  · refine bsplit_dec (fun c3 => ?_) (fun c3 => ?_)
    · exact ⟨H, by simp; omega⟩
    · refine bsplit_dec (fun c2 => ?_) (fun c2 => ?_)
      · exact ⟨H, by simp; omega⟩
      · refine access_known_ct.mono ?_
        rintro _ w1 ⟨rfl, hb1⟩; have H1 := H.pass hb1; clear H
        refine ⟨_, rfl, ?_⟩
        refine bsplit_n (fun c1 => ?_) (fun c1 => ?_)
        · have := of_decide_eq_false c1
          exact ⟨H1, by simp; omega⟩
        · have := of_decide_eq_true c1
          refine bsplit_dec (fun c => ?_) (fun c => ?_)
          · exact ⟨H1, by simp; omega⟩
          · exact ⟨H1, by simp only [decide_eq_true_eq]; omega⟩
theorem ref38_Preamble_ct : Calls Try.prog N_ref38_Preamble #[(.int .i64 id), (.int .i64 tr), (.int .i64 pr)] w fun e w' => e = .returned (.int .i64 (preR id tr pr)) ∧ Below w.heap.size w w' := by
  apply F_ref38_Preamble_ok
  unfold F_ref38_Preamble
  have H := St.nil w
  refine ⟨fun x w2 => St (fun _ => False) [] w w2 [] (fun _ => True) ∧ (x = true ↔ pr < 1 ∨ pr > 64 ∨ id < 0 ∨ id ≥ 65536 ∨ tr < 0 ∨ tr > 32), ?_, ?_⟩
  · rintro _ x w2 ⟨H2, hj⟩
    refine bsplit_intro (fun c4 => ?_) (fun c4 => ?_) --  x
    · exact ⟨by rw [preR, if_pos (hj.1 c4)], H2.below⟩
    · have hn : ¬ (pr < 1 ∨ pr > 64 ∨ id < 0 ∨ id ≥ 65536 ∨ tr < 0 ∨ tr > 32) := fun h => by rw [hj.2 h] at c4; cases c4
      obtain ⟨h1, h2, h3, h4⟩ := preR_bound (id := id) (tr := tr) (pr := pr) (by omega) (by omega) (by omega)
      refine kW_i64 (by omega) ?_
      refine kW_i64 (by omega) ?_
      refine ⟨by omega, ?_⟩
      refine kW_i64 (by omega) ?_
      refine kW_i64 (by omega) ?_
      refine kW_i64 (by omega) ?_
      refine ⟨by omega, ?_⟩
      refine kLet_in ?_
      exact ⟨by rw [preR, if_neg hn], H2.below⟩
  · refine bsplit_dec (fun c3 => ?_) (fun c3 => ?_)
    · exact ⟨H, by simp; omega⟩
    refine bsplit_dec (fun c2 => ?_) (fun c2 => ?_)
    · exact ⟨H, by simp; omega⟩
    refine bsplit_dec (fun c2 => ?_) (fun c2 => ?_)
    · exact ⟨H, by simp; omega⟩
    refine bsplit_dec (fun c2 => ?_) (fun c2 => ?_)
    · exact ⟨H, by simp; omega⟩
    refine bsplit_dec (fun c => ?_) (fun c => ?_)
    · exact ⟨H, by simp; omega⟩
    · exact ⟨H, by simp only [decide_eq_true_eq]; omega⟩
theorem idx_has : decide (idx (fun x : At => decide (x.id = id)) l ≥ 0) = hasR l id := by
  have key : ∀ l : List At, (0 ≤ idx (fun x : At => decide (x.id = id)) l ↔ hasR l id = true) := by
    intro l
    induction l with
    | nil => simp [idx, hasR]
    | cons x xs ih =>
      have hg := idx_ge (p := fun x : At => decide (x.id = id)) xs
      unfold idx
      by_cases hx : x.id = id
      · simp [hx, hasR]
      · have e : hasR (x :: xs) id = hasR xs id := by simp [hasR, hx]
        rw [e, ← ih]
        simp only [hx, decide_false, Bool.false_eq_true, if_false]
        split <;> omega
  rw [Bool.eq_iff_iff, decide_eq_true_iff]
  exact key l
theorem access_find_ct (hs : SlR (CE encAt) 4 w p l) (hl : l.length ≤ 1000000) : Calls Try.prog N_access_find #[(.slice p l.length c), (.int .i64 id)] w fun e w' => e = .returned (.int .i64 (idx (fun x : At => decide (x.id = id)) l)) ∧ Below w.heap.size w w' := by
  apply F_access_find_ok
  unfold F_access_find
  have H := St.nil w
  refine H.alloc ?_; clear H; intro b w1 H1
  refine (indexFunc_ct (ff := #[]) (fc := #[(.pointer (some ⟨b, 0, none⟩))]) (g := N_access_find_1) (hs.belowE H1.below) hl (fun x => decide (x.id = id)) (by kernel_rfl) ?_).mono ?_
  · intro w' r _ hb'
    have hc := (H1.pass hb').cell (i := 0) (o := 0) rfl rfl
    apply F_access_find_1_ok
    unfold F_access_find_1
    have K := St.nil w'
    refine K.alloc ?_; clear K; intro b2 w2 K2
    refine K2.ld (i := 0) rfl rfl ?_
    refine lqs (K2.below.get hc) ?_
    refine kLet_in ?_
    exact ⟨rfl, K2.below⟩
  rintro _ w2 ⟨rfl, hb2⟩; have H2 := H1.pass hb2; clear H1
  refine ⟨_, rfl, ?_⟩
  exact ⟨rfl, H2.below⟩
theorem ref38_has_ct (hs : SlR (CE encAt) 4 w p l) (hl : l.length ≤ 1000000) : Calls Try.prog N_ref38_has #[(.slice p l.length c), (.int .i64 id)] w fun e w' => e = .returned (.bool (hasR l id)) ∧ Below w.heap.size w w' := by
  apply F_ref38_has_ok
  unfold F_ref38_has
  have H := St.nil w
  refine ⟨fun i => ((l.length - i).toNat, fun w1 => ∃ k : Nat, i = k ∧ k ≤ l.length ∧ (∀ j (hj : j < l.length), j < k → l[j].id ≠ id) ∧ St (fun _ => False) [] w w1 [] (fun _ => True)), ⟨0, rfl, by omega, fun j _ h => by omega, H⟩, ?_⟩
  clear H
  rintro _ i w1 ⟨k, rfl, hk, hI, H1⟩
  refine bsplit_dec (fun c1 => ?_) (fun c1 => ?_)
  · have hlt : k < l.length := by omega
    refine ixE (hs.belowE H1.below) k rfl hlt fun b s hsk hb => ?_
    obtain rfl : l[k] = s := by rw [List.getElem?_eq_getElem hlt] at hsk; injection hsk
    refine ⟨_, by have := cellsAt_get hb 0 _ rfl; rwa [Nat.zero_add, add_zero] at this, ?_⟩
    refine bsplit_dec (fun c => ?_) (fun c => ?_)
    · exact ⟨by rw [hasR_iff.2 ⟨l[k], List.getElem_mem hlt, c⟩], H1.below⟩
    · refine kW_i64 (by omega) ?_
      exact ⟨⟨k + 1, by omega, by omega, fun j hj h => by
        rcases Nat.lt_or_ge j k with h' | h'
        · exact hI j hj h'
        · obtain rfl : j = k := by omega
          exact c, H1⟩, by dsimp only; omega⟩
  · have : hasR l id = false := by
      rw [Bool.eq_false_iff]
      intro h
      obtain ⟨x, hx, he⟩ := hasR_iff.1 h
      obtain ⟨j, hj, rfl⟩ := List.getElem_of_mem hx
      exact hI j hj (by omega) he
    exact ⟨by rw [this], H1.below⟩
theorem ref38_before_ct (x y : At) : Calls Try.prog N_ref38_before #[aggAt x, aggAt y] w fun e w' => e = .returned (.bool (bef x y)) ∧ Below w.heap.size w w' := by
  apply F_ref38_before_ok
  unfold F_ref38_before
  have H := St.nil w
  refine H.alloc ?_; clear H; intro b w1 H1
  refine H1.alloc ?_; clear H1; intro b1 w2 H2
  refine H2.ld (i := 0) rfl rfl ?_
  refine H2.ld (i := 1) rfl rfl ?_
  refine bsplit_dec (fun c1 => ?_) (fun c1 => ?_) --  (decide (a_2 < b_2))
  · exact ⟨by simp [bef, c1], H2.below⟩
  · refine H2.ld (i := 0) rfl rfl ?_
    refine H2.ld (i := 1) rfl rfl ?_
    refine bsplit_dec (fun c => ?_) (fun c => ?_) --  (decide (a_2 = b_2))
    · refine H2.ld (i := 0) rfl rfl ?_
      refine H2.ld (i := 1) rfl rfl ?_
      refine kLet_in ?_
      exact ⟨by simp [bef, c], H2.below⟩
    · exact ⟨by simp [bef, c, c1], H2.below⟩
end
end Go.Proofs.Ytgmniohbnophdaa
