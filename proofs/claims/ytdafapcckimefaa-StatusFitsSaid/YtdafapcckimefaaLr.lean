import Derived.Test.YtdafapcckimefaaP18r
import Derived.Test.YtdafapcckimefaaForms
import Derived.Test.YtdafapcckimefaaTys
import Derived.Test.YtdafapcckimefaaEl
import Derived.Test.YtdafapcckimefaaEq3
/- Ranges as elements of rows; whether two lists of them are the same. -/
namespace Go.Proofs.Ytdafapcckimefaa
open Go.Sx Go.RowKit
def encR (x : Rg) : List Value := [.int .i64 x.sn, .int .i64 x.f, .int .i64 x.t]
theorem encR_ok : Enc encR 3 := ⟨fun _ => rfl, fun _ => rfl⟩
theorem eqP_range {x y : Operand} {a b : Rg} {F : Bool → Prop} (h : F (decide (a ≠ b))) : EqP Try.prog .neq Ty_api_Range x y (.agg #[.int .i64 a.sn, .int .i64 a.f, .int .i64 a.t]) (.agg #[.int .i64 b.sn, .int .i64 b.f, .int .i64 b.t]) F := by
  refine eqP_ints (k' := .i64) (e := Ty_int) (xs := [a.sn, a.f, a.t]) (ys := [b.sn, b.f, b.t]) (by kernel_rfl) (by kernel_rfl) (by kernel_rfl) (by kernel_rfl) (by kernel_rfl) (by kernel_rfl) rfl ?_
  have e : (!decide ([a.sn, a.f, a.t] = [b.sn, b.f, b.t])) = decide (a ≠ b) := by
    rw [← decide_not, decide_eq_decide]
    cases a; cases b; simp
  rw [e]; exact h
section
variable {l_a b_a : Option Addr} {l m : List Rg} {l_c b_c : Nat} {k : Int} {w : World}
theorem ref18_SameRanges_ct (hs : SlR (CE encR) 3 w l_a l) (hm : SlR (CE encR) 3 w b_a m) (hl : l.length ≤ 140737488355328) :
    Calls Try.prog N_ref18_SameRanges #[(.slice l_a l.length l_c), (.slice b_a m.length b_c)] w fun e w' => e = .returned (.bool (decide (l = m))) ∧ Below w.heap.size w w' := by
  apply F_ref18_SameRanges_ok
  unfold F_ref18_SameRanges
  have H := St.nil w
  refine bsplit_nd (fun c2 => ?_) (fun c2 => ?_) --  (!decide ((a_l : Int) = (b_l : Int)))
  · exact ⟨retF (fun h => by subst h; omega), H.below⟩ --! (.bool false)
  · have hlen : l.length = m.length := by omega
    refine ⟨fun i => ((l.length - i).toNat, fun w1 => ∃ k : Nat, k ≤ l.length ∧ i = k ∧ l.take k = m.take k ∧ FreshR w w1 []), ⟨0, by omega, rfl, rfl, H⟩, ?_⟩ --! I (0 : Int)
    clear H
    rintro _ i w1 ⟨k, hk, rfl, hI, H1⟩
    refine bsplit_dec (fun c1 => ?_) (fun c1 => ?_) --  (decide (i < (a_l : Int)))
    · have hlt : k < l.length := by omega
      have hlt2 : k < m.length := by omega
      refine H1.drew ?_; clear H1; intro w2 H2
      refine ixE (hs.belowE H2.below) k rfl hlt fun b s hsk hb => ?_
      obtain rfl : l[k] = s := by rw [List.getElem?_eq_getElem hlt] at hsk; injection hsk
      refine ⟨_, _, _, hb, ?_⟩
      refine ixE (hm.belowE H2.below) k rfl hlt2 fun b' s hsk hb' => ?_
      obtain rfl : m[k] = s := by rw [List.getElem?_eq_getElem hlt2] at hsk; injection hsk
      refine ⟨_, _, _, hb', ?_⟩
      refine eqP_range ?_
      refine bsplit_dec (fun c => ?_) (fun c => ?_) --  r
      · exact ⟨retF (fun e => c (by subst e; rfl)), H2.below⟩ --! (.bool false)
      · refine kW_i64 (by omega) ?_ -- i + (1 : Int)
        refine ⟨⟨k + 1, by omega, by omega, ?_, H2⟩, by dsimp only; omega⟩ --! I (i + (1 : Int))
        rw [List.take_add_one, List.take_add_one, hI, List.getElem?_eq_getElem hlt, List.getElem?_eq_getElem hlt2, Decidable.not_not.1 c]
    · obtain rfl : k = l.length := by omega
      rw [List.take_length, hlen, List.take_length] at hI
      exact ⟨retT hI, H1.below⟩ --! (.bool true)
end
end Go.Proofs.Ytdafapcckimefaa
