import Derived.Test.YtelkdacpehdllaaW18n
import Derived.Test.YtelkdacpehdllaaAz0
namespace Go.Proofs.Ytelkdacpehdllaa
open Go.Sx Go.RowKit

section
variable {w : World}
theorem grow_ranges {n : Nat} (hn : n ≤ 1000000) :
    Calls Try.prog N_slices_Grow_Sapi_Range_api_Range #[(.slice none 0 0), (.int .i64 (n : Int))] w fun e w' => ∃ a c, e = .returned (.slice a 0 c) ∧ FreshR w w' [.els encR Ty_api_Range 3 a c []] := by
  apply F_slices_Grow_Sapi_Range_api_Range_ok
  unfold F_slices_Grow_Sapi_Range_api_Range
  have H := St.nil w
  refine ⟨fun w1 => w1 = w, ?_, bsplit_dec (fun c => by omega) (fun c => rfl)⟩ --!
  rintro _ w1 rfl
  refine kW_i64 (by omega) ?_ -- (s_c : Int) - (s_l : Int)
  refine kW_i64 (by omega) ?_ -- n - ((s_c : Int) - (s_l : Int))
  refine bsplit_dec (fun c1 => ?_) (fun c1 => ⟨none, 0, rfl, H.nilE encR Ty_api_Range 3⟩) --  (decide ((n - ((s_c : Int) - (s_l : Int))) > (0 : Int)))
  refine ⟨⟨by omega, by omega⟩, ?_⟩ -- hi
  rw [slAddr_zero]
  refine H.appZ0 sl_Ty_S_api_Range (k2 := .i64) (by kernel_rfl) n (by omega) (by omega) (by omega) (by omega) ?_; intro x_a x_c w2 H2
  refine ⟨⟨by omega, by omega⟩, ?_⟩ -- hi
  rw [slAddr_zero]
  have H2 := H2.shrink (i := 0) rfl 0 (Nat.zero_le _)
  exact ⟨x_a, x_c, rfl, by simpa [Res.els] using H2⟩ --! (.slice (slAddr x_c 0 3 x_a) ((s_l : Int).toNat - 0) (x_c - 0))
/-- a part of joined ranges lies at p -/
def PartG (w : World) (p : Addr) (l : List Rg) : Prop := ∃ a c, w.cell? p = some (.slice a l.length c) ∧ SlR (CE encR) 3 w a l
theorem PartG.below {w w' : World} {p : Addr} {l : List Rg} (h : PartG w p l) (hb : Below w.heap.size w w') : PartG w' p l := by
  obtain ⟨a, c, h1, h2⟩ := h
  exact ⟨a, c, hb.get h1, h2.belowE hb⟩
theorem concat_ranges {pa : Option Addr} {pc : Nat} {ps : List (List Rg)} (hs : SlR PartG 1 w pa ps) (hl : ps.flatten.length ≤ 1000000) (hpl : ps.length ≤ 1000) :
    Calls Try.prog N_slices_Concat_Sapi_Range_api_Range #[(.slice pa ps.length pc)] w fun e w' => ∃ a c, e = .returned (.slice a ps.flatten.length c) ∧ FreshR w w' [.els encR Ty_api_Range 3 a c ps.flatten] := by
  apply F_slices_Concat_Sapi_Range_api_Range_ok
  unfold F_slices_Concat_Sapi_Range_api_Range
  have H := St.nil w
  have part : ∀ k (hk : k < ps.length), (ps.take (k + 1)).flatten = (ps.take k).flatten ++ ps[k] := fun k hk => by
    rw [List.take_add_one, List.getElem?_eq_getElem hk, Option.toList_some, List.flatten_append]; simp
  have le : ∀ k, (ps.take k).flatten.length ≤ ps.flatten.length := fun k => by
    have : ps.flatten.length = (ps.take k).flatten.length + (ps.drop k).flatten.length := by rw [← List.length_append, ← List.flatten_append, List.take_append_drop]
    omega
  have rd : ∀ {w2 : World} (k : Nat) (hk : k < ps.length) {F : Addr → Prop}, Below w.heap.size w w2 → (∀ b, PartG w2 (b.add ((k : Int).toNat * 1)) ps[k] → F b) → kIx pa ps.length (k : Int) F := fun k hk F hb2 h => by
    refine ixE (hs.keep fun _ _ hc => hc.below hb2) k rfl hk fun b s hsk hb => ?_
    obtain rfl : ps[k] = s := by rw [List.getElem?_eq_getElem hk] at hsk; injection hsk
    exact h b hb
  refine ⟨fun size x => ((ps.length - x).toNat, fun w1 => ∃ k : Nat, k ≤ ps.length ∧ x = k ∧ size = ((ps.take k).flatten.length : Nat) ∧ FreshR w w1 []), ⟨0, by omega, rfl, by simp, H⟩, ?_⟩ --! I (0 : Int) (0 : Int)
  clear H
  rintro _ size x w1 ⟨k, hk, rfl, rfl, H1⟩
  refine bsplit_dec (fun c2 => ?_) (fun c2 => ?_) --  (decide (x < (slices_l : Int)))
  · have hlt : k < ps.length := by omega
    have e1 := congrArg List.length (part k hlt)
    have e2 := le (k + 1)
    rw [List.length_append] at e1
    refine rd k hlt H1.below fun b hb => ?_
    obtain ⟨a, c, h1, h2⟩ := hb
    refine ⟨_, _, _, h1, ?_⟩
    refine kW_i64 (by omega) ?_ -- size + (x_l : Int)
    refine bsplit_dec (fun c => by omega) (fun c => ?_) --  (decide ((size + (x_l : Int)) < (0 : Int)))
    refine kW_i64 (by omega) ?_ -- x + (1 : Int)
    exact ⟨⟨k + 1, by omega, by omega, by omega, H1⟩, by dsimp only; omega⟩ --! I (size + (x_l : Int)) (x + (1 : Int))
  · obtain rfl : k = ps.length := by omega
    rw [List.take_length]
    refine (grow_ranges hl).mono ?_ -- (.slice none 0 0), (.int .i64 size)
    rintro _ w2 ⟨ga, gc, rfl, K⟩; have H2 := H1.callR K; clear H1
    refine ⟨_, _, _, rfl, ?_⟩
    refine ⟨fun na nl nc x => ((ps.length - x).toNat, fun w3 => ∃ k : Nat, k ≤ ps.length ∧ x = k ∧ nl = (ps.take k).flatten.length ∧ FreshR w w3 [.els encR Ty_api_Range 3 na nc (ps.take k).flatten]), ⟨0, by omega, rfl, by simp, by simpa using H2⟩, ?_⟩ --! I r_a r_l r_c (0 : Int)
    clear H2
    rintro _ na nl nc x w3 ⟨k, hk2, rfl, rfl, H3⟩
    refine bsplit_dec (fun c1 => ?_) (fun c1 => ?_) --  (decide (x3 < (slices_l : Int)))
    · have hlt : k < ps.length := by omega
      have e1 := congrArg List.length (part k hlt)
      have e2 := le (k + 1)
      rw [List.length_append] at e1
      refine rd k hlt H3.below fun b hb => ?_
      obtain ⟨a, c, h1, h2⟩ := hb
      refine ⟨_, _, _, h1, ?_⟩
      refine H3.appE encR_ok (i := 0) rfl sl_Ty_S_api_Range h2 (by omega) (by omega) ?_; intro x_a2 x_c2 w4 H4
      rw [← part k hlt] at H4 ⊢
      refine kW_i64 (by omega) ?_ -- x3 + (1 : Int)
      exact ⟨⟨k + 1, by omega, by omega, rfl, H4⟩, by show Int.toNat _ < Int.toNat _; omega⟩ --! I x_a2 x_l2 x_c2 (x3 + (1 : Int))
    · obtain rfl : k = ps.length := by omega
      rw [List.take_length] at H3 ⊢
      exact ⟨_, _, rfl, H3⟩ --! (.slice newslice_a newslice_l newslice_c)
end
end Go.Proofs.Ytelkdacpehdllaa
