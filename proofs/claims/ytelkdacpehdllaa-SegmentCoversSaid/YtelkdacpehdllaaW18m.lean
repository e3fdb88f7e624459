import Derived.Test.YtelkdacpehdllaaW18k
namespace Go.Proofs.Ytelkdacpehdllaa
open Go.Sx Go.RowKit

/-- what a function returns that makes ranges, or an error -/
def RetG (w : World) (l : List Rg) (er : Int) : Ending → World → Prop := fun e w' => ∃ a c, l.length ≤ c ∧ e = .returned (.tuple #[.slice a l.length c, .int .i64 er]) ∧ Fresh w w' fun w => SlR (CE encR) 3 w a l
theorem RetG.nil {w w' : World} (b : Below w.heap.size w w') (er : Int) : RetG w [] er (.returned (.tuple #[.slice none 0 0, .int .i64 er])) w' :=
  ⟨none, 0, Nat.le_refl _, rfl, ((St.nil w).pass b).imp fun _ _ => .inl rfl⟩
theorem RetG.of {w w' : World} {R : List Res} {P : World → Prop} (H : St (fun _ => False) [] w w' R P) {i : Nat} {a : Option Addr} {c : Nat} {l : List Rg} (hi : R[i]? = some (.els encR Ty_api_Range 3 a c l)) (er : Int) :
    RetG w l er (.returned (.tuple #[.slice a l.length c, .int .i64 er])) w' := ⟨a, c, H.capE hi, rfl, (H.freshRow hi).imp fun _ h => els_sl encR_ok h⟩
section
variable {l_a : Option Addr} {l : List Rg} {l_c : Nat} {w : World} {sn len : Int}
theorem ref18_Normal_ct (hs : SlR (CE encR) 3 w l_a l) (hl : l.length ≤ 140737488355328) :
    Calls Try.prog N_ref18_Normal #[(.slice l_a l.length l_c)] w fun e w' => e = .returned (.bool (normB (-1) l)) ∧ Below w.heap.size w w' := by
  apply F_ref18_Normal_ok
  unfold F_ref18_Normal
  have H := St.nil w
  refine ⟨fun x => ((l.length - x).toNat, fun w1 => ∃ k : Nat, k ≤ l.length ∧ x = k ∧ normB (-1) l = normB (prevT l k) (l.drop k) ∧ -1 ≤ prevT l k ∧ FreshR w w1 []), ⟨0, by omega, rfl, rfl, Int.le_refl _, H⟩, ?_⟩ --! I (0 : Int)
  clear H
  rintro _ x w1 ⟨k, hk, rfl, hI, hpv, H1⟩
  refine bsplit_dec (fun c4 => ?_) (fun c4 => ?_) --  (decide (x < (l_l : Int)))
  · have hlt : k < l.length := by omega
    rw [normB_drop _ _ _ hlt] at hI
    have hp : prevT l k = -1 ∨ 0 < k := by rcases k with _ | k <;> simp [prevT]
    have no : (l[k].f < 0 ∨ l[k].f ≥ l[k].t ∨ (0 < k ∧ l[k].f ≤ prevT l k)) → normB (-1) l = false := fun h => by
      rw [hI, decide_eq_false, Bool.false_and]
      rintro ⟨h1, h2⟩
      rcases h with h | h | h
      · omega
      · omega
      · omega
    have go : ∀ {w5 : World}, St (fun _ => False) [] w w5 [] (fun _ => True) → 0 ≤ l[k].f → l[k].f < l[k].t → (0 < k → prevT l k < l[k].f) → ∃ k2 : Nat, k2 ≤ l.length ∧ (k : Int) + 1 = k2 ∧ normB (-1) l = normB (prevT l k2) (l.drop k2) ∧ -1 ≤ prevT l k2 ∧ FreshR w w5 [] := fun H5 h1 h2 h3 => by
      refine ⟨k + 1, by omega, by omega, ?_, by rw [prevT_succ hlt]; omega, H5⟩
      rw [hI, prevT_succ hlt, decide_eq_true, Bool.true_and]
      refine ⟨?_, h2⟩
      rcases hp with hp | hp
      · omega
      · exact h3 hp
    refine H1.drew ?_; clear H1; intro w2 H2
    have rd : ∀ {F : Addr → Prop}, (∀ b, cellsAt w2 (b.add ((k : Int).toNat * 3)) 0 (encR l[k]) → F b) → kIx l_a l.length (k : Int) F := fun h => by
      refine ixE (hs.belowE H2.below) k rfl hlt fun b s hsk hb => ?_
      obtain rfl : l[k] = s := by rw [List.getElem?_eq_getElem hlt] at hsk; injection hsk
      exact h b hb
    refine rd fun b hb => ld_at hb 1 rfl ?_
    refine bsplit_dec (fun c3 => ?_) (fun c3 => ?_) --  (decide (x < (0 : Int)))
    · exact ⟨by rw [no (.inl c3)], H2.below⟩ --! (.bool false)
    refine rd fun b hb => ld_at hb 1 rfl ?_
    refine rd fun b hb => ld_at hb 2 rfl ?_
    refine bsplit_dec (fun c2 => ?_) (fun c2 => ?_) --  (decide (x1 ≥ x2))
    · exact ⟨by rw [no (.inr (.inl c2))], H2.below⟩ --! (.bool false)
    refine bsplit_dec (fun c1 => ?_) (fun c1 => ?_) --  (decide (i > (0 : Int)))
    · refine rd fun b hb => ld_at hb 1 rfl ?_
      refine kW_i64 (by omega) ?_ -- i - (1 : Int)
      refine ixE (hs.belowE H2.below) (k - 1) (by omega) (by omega) fun b s hsk hb => ?_
      refine ld_at hb 2 rfl ?_
      have hs2 : s.t = prevT l k := by
        rcases k with _ | k
        · omega
        · simp only [Nat.add_sub_cancel] at hsk
          simp [prevT, hsk]
      refine bsplit_dec (fun c => ?_) (fun c => ?_) --  (decide (x3 ≤ x5))
      · exact ⟨by rw [no (.inr (.inr ⟨by omega, by rw [← hs2]; exact c⟩))], H2.below⟩ --! (.bool false)
      · refine kW_i64 (by omega) ?_ -- i + (1 : Int)
        exact ⟨go H2 (by omega) (by omega) fun _ => by omega, by dsimp only; omega⟩ --! I (i + (1 : Int))
    · refine kW_i64 (by omega) ?_ -- i + (1 : Int)
      exact ⟨go H2 (by omega) (by omega) fun h => by omega, by dsimp only; omega⟩ --! I (i + (1 : Int))
  · obtain rfl : k = l.length := by omega
    rw [List.drop_length] at hI
    exact ⟨by rw [hI]; rfl, H1.below⟩ --! (.bool true)
theorem clone_ranges (hs : SlR (CE encR) 3 w l_a l) (hl : l.length ≤ 1000000) :
    Calls Try.prog N_slices_Clone_Sapi_Range_api_Range #[(.slice l_a l.length l_c)] w fun e w' => ∃ a c, e = .returned (.slice a l.length c) ∧ FreshR w w' [.els encR Ty_api_Range 3 a c l] := by
  apply F_slices_Clone_Sapi_Range_api_Range_ok
  unfold F_slices_Clone_Sapi_Range_api_Range
  have H := St.nil w
  cases l_a with
  | none =>
    obtain rfl : l = [] := by
      rcases hs with h | ⟨b, hb, _⟩
      · exact h
      · cases hb
    exact ⟨none, 0, rfl, H.nilE encR Ty_api_Range 3⟩
  | some p =>
    refine bsplit_intro (fun h => by cases h) (fun _ => ?_)
    refine H.alloc ?_; clear H; intro b w1 H1
    have H1 := H1.litE encR_ok (i := 0) [] rfl (by decide)
    refine H1.appE encR_ok (i := 0) rfl sl_Ty_S_api_Range (hs.belowE H1.below) (by simp; omega) (by simp; omega) ?_; intro x_a x_c w2 H2
    exact ⟨x_a, x_c, rfl, H2⟩ --! (.slice x_a x_l x_c)
theorem ref18_Gaps_ct (hs : SlR (CE encR) 3 w l_a l) (hl : l.length ≤ 1000000) :
    Calls Try.prog N_ref18_Gaps #[(.slice l_a l.length l_c), (.int .i64 sn), (.int .i64 len)] w (RetG w (gapR l sn len).1 (gapR l sn len).2) := by
  apply F_ref18_Gaps_ok
  unfold F_ref18_Gaps
  have H := St.nil w
  refine (ref18_Normal_ct hs (by omega)).mono ?_ -- (.slice l_a l_l l_c)
  rintro _ w1 ⟨rfl, hb1⟩; have H1 := H.pass hb1; clear H
  refine ⟨_, rfl, ?_⟩
  refine bsplit_n (fun c6 => ?_) (fun c6 => ?_) --  (!r)
  · have e : gapR l sn len = ([], 4) := if_pos c6
    rw [e]; exact .nil H1.below _ --! (.tuple #[(.slice none 0 0), (.int .i64 (4 : Int))])
  have e0 : gapR l sn len = if len < 0 ∨ (0 < l.length ∧ len < prevT l l.length) then ([], 3) else (gapsS sn l 0 len, 0) := if_neg (by simp [c6])
  rw [e0]
  refine ⟨fun w2 => w2 = w1 ∧ ¬ (len < 0 ∨ (0 < l.length ∧ len < prevT l l.length)), ?_, ?_⟩ --!
  · rintro _ w2 ⟨rfl, hno⟩
    rw [if_neg hno]
    have H1 := H1.nilE encR Ty_api_Range 3
    refine ⟨fun out_a out_l out_c at1 i => ((l.length - i).toNat, fun w3 => ∃ (k : Nat) (out : List Rg), k ≤ l.length ∧ i = k ∧ out_l = out.length ∧ out.length ≤ k ∧ gapsS sn l 0 len = out ++ gapsS sn (l.drop k) at1 len ∧ FreshR w w3 [.els encR Ty_api_Range 3 out_a out_c out]), ⟨0, [], by omega, rfl, rfl, by simp, rfl, H1⟩, ?_⟩ --! I none 0 0 (0 : Int) (0 : Int)
    clear H1
    rintro _ out_a out_l out_c at1 i w3 ⟨k, out, hk, rfl, rfl, hol, hI, H3⟩
    refine bsplit_dec (fun c5 => ?_) (fun c5 => ?_) --  (decide (i < (l_l : Int)))
    · have hlt : k < l.length := by omega
      rw [gapsS_drop _ _ _ _ _ hlt] at hI
      have rd : ∀ {w2 : World} {F : Addr → Prop}, Below w.heap.size w w2 → (∀ b, cellsAt w2 (b.add ((k : Int).toNat * 3)) 0 (encR l[k]) → F b) → kIx l_a l.length (k : Int) F := fun hb2 h => by
        refine ixE (hs.belowE hb2) k rfl hlt fun b s hsk hb => ?_
        obtain rfl : l[k] = s := by rw [List.getElem?_eq_getElem hlt] at hsk; injection hsk
        exact h b hb
      refine rd H3.below fun b hb => ld_at hb 1 rfl ?_
      refine bsplit_dec (fun c3 => ?_) (fun c3 => ?_) --  (decide (x2 > at1))
      · rw [if_pos c3] at hI
        refine rd H3.below fun b hb => ld_at hb 1 rfl ?_
        refine H3.alloc ?_; clear H3; intro b3 w4 H4
        refine H4.appEB encR_ok (i := 0) (j := 1) rfl [⟨sn, at1, l[k].f⟩] rfl sl_Ty_S_api_Range rfl (by simp; omega) (by simp; omega) ?_; intro x_a x_c w5 H5
        refine rd H5.below fun b hb => ld_at hb 2 rfl ?_
        refine kW_i64 (by omega) ?_ -- i + (1 : Int)
        refine ⟨⟨k + 1, _, by omega, by omega, rfl, by simp; omega, by rw [hI]; simp, H5.sub (fun i => i) ?_ (fun _ _ _ _ h => h)⟩, by show Int.toNat _ < Int.toNat _; omega⟩ --! I x_a x_l x_c x4 (i + (1 : Int))
        rintro (_ | _) r h <;> first | exact h | cases h
      · rw [if_neg c3] at hI
        refine rd H3.below fun b hb => ld_at hb 2 rfl ?_
        refine kW_i64 (by omega) ?_ -- i + (1 : Int)
        exact ⟨⟨k + 1, out, by omega, by omega, rfl, by omega, hI, H3⟩, by show Int.toNat _ < Int.toNat _; omega⟩ --! I out_a out_l out_c x6 (i + (1 : Int))
    · obtain rfl : k = l.length := by omega
      rw [List.drop_length] at hI
      refine bsplit_dec (fun c4 => ?_) (fun c4 => ?_) --  (decide (at1 < length))
      · refine H3.alloc ?_; clear H3; intro b6 w6 H6
        refine H6.appEB encR_ok (i := 0) (j := 1) rfl [⟨sn, at1, len⟩] rfl sl_Ty_S_api_Range rfl (by simp; omega) (by simp; omega) ?_; intro x_a1 x_c1 w7 H7
        rw [show gapsS sn l 0 len = out ++ [⟨sn, at1, len⟩] by rw [hI]; simp [gapsS, c4]]
        exact .of H7 (i := 0) rfl 0 --! (.tuple #[(.slice x_a1 x_l1 x_c1), (.int .i64 (0 : Int))])
      · rw [show gapsS sn l 0 len = out by rw [hI]; simp [gapsS, c4]]
        exact .of H3 (i := 0) rfl 0 --! (.tuple #[(.slice out_a out_l out_c), (.int .i64 (0 : Int))])
  · refine bsplit_dec (fun c2 => ?_) (fun c2 => ?_) --  (decide (length < (0 : Int)))
    · rw [if_pos (.inl c2)]; exact .nil H1.below _ --! (.tuple #[(.slice none 0 0), (.int .i64 (3 : Int))])
    · refine bsplit_dec (fun c1 => ?_) (fun c1 => ⟨rfl, by omega⟩) --  (decide ((l_l : Int) > (0 : Int)))
      have hlt : l.length - 1 < l.length := by omega
      refine kW_i64 (by omega) ?_ -- (l_l : Int) - (1 : Int)
      refine ixE (hs.belowE H1.below) (l.length - 1) (by omega) hlt fun b s hsk hb => ?_
      refine ld_at hb 2 rfl ?_
      have hp : prevT l l.length = s.t := by
        have := prevT_succ hlt
        rw [show l.length - 1 + 1 = l.length by omega] at this
        rw [this]
        rw [List.getElem?_eq_getElem hlt] at hsk; injection hsk with hsk; rw [hsk]
      refine bsplit_dec (fun c => ?_) (fun c => ?_) --  (decide (length < x1))
      · rw [if_pos (.inr ⟨by omega, by rw [hp]; exact c⟩)]; exact .nil H1.below _ --! (.tuple #[(.slice none 0 0), (.int .i64 (3 : Int))])
      · exact ⟨rfl, by rw [hp]; omega⟩ --! J 
end
end Go.Proofs.Ytelkdacpehdllaa
