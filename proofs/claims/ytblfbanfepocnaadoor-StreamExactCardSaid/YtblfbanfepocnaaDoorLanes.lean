import Derived.Test.YtblfbanfepocnaaDoorW13d
import Derived.Test.YtblfbanfepocnaaDoorLiftLaid
namespace Go.Proofs.YtblfbanfepocnaaDoor
open Go.Sx Go.RowKit Go.ChangeShapes Go.WideShapes

theorem gLanes : Tryd.prog.globalNamed "radiolink/stream.lanes" = some 0 := by kernel_rfl
theorem gLanesType : (Tryd.prog.globals[0]?).map (·.type) = some Ty_8_4_int := by kernel_rfl
theorem row_lit (k : Nat) (hk : k < 8) : ∀ (xs : List (DataW Unit × List MemPlace)), (.agg (xs.map (·.1)) : DataW Unit) = Rows.laid_radiolink_stream_lanes → (xs[k]?).map (·.1) = some (Lib.tabData .i64 [(lane (4 * k) : Nat), (lane (4 * k + 1) : Nat), (lane (4 * k + 2) : Nat), (lane (4 * k + 3) : Nat)]) := by
  intro xs h
  unfold Rows.laid_radiolink_stream_lanes at h
  injection h with h
  have h2 := congrArg (·[k]?) h
  simp only [List.getElem?_map] at h2
  rw [h2]
  rcases (show k = 0 ∨ k = 1 ∨ k = 2 ∨ k = 3 ∨ k = 4 ∨ k = 5 ∨ k = 6 ∨ k = 7 by omega) with rfl | rfl | rfl | rfl | rfl | rfl | rfl | rfl <;> rfl
/-- what the row's list gives -/
theorem lanes_of {W : World} (h : laidMetH Tryd.prog [("radiolink/stream.lanes", Rows.laid_radiolink_stream_lanes)] W) : LaneT W := by
  obtain ⟨ps, ⟨g', t', cs, fuel, p, q, hg', ht', hvar, hd, _, _⟩, _⟩ := (show laidMet Tryd.prog [("radiolink/stream.lanes", Rows.laid_radiolink_stream_lanes)] W from h)
  obtain rfl := Option.some.inj (gLanes.symm.trans hg')
  obtain rfl := Option.some.inj (gLanesType.symm.trans ht')
  obtain ⟨xs, m, _, hx, hcl, hxl, hrow⟩ := DataW.trod_array (n := 8) (e := Ty_4_int) (by kernel_rfl) hd
  have hx1 := congrArg Prod.fst hx
  have hc4 : Tryd.prog.cellsOf Ty_4_int = 4 := by kernel_rfl
  have cell : ∀ k, k < 8 → (cs.toList.drop (k * 4)).take 4 = [Value.int .i64 (lane (4 * k) : Nat), .int .i64 (lane (4 * k + 1) : Nat), .int .i64 (lane (4 * k + 2) : Nat), .int .i64 (lane (4 * k + 3) : Nat)] := by
    intro k hk
    have h1 := hrow k hk
    rw [hc4] at h1
    have h2 := row_lit k hk xs hx1.symm
    obtain ⟨y, hy, hy2⟩ := Option.map_eq_some_iff.1 h2
    rw [hy] at h1
    obtain ⟨y1, y2⟩ := y
    simp only at hy2
    subst hy2
    exact Lib.cells_of_tab (n := 4) (e := Ty_int) (by kernel_rfl) (by kernel_rfl) (by kernel_rfl) (by kernel_rfl) h1
  have hall : ∀ j, j < 32 → cs.toList[j]? = some (.int .i64 (lane j : Nat)) := by
    intro j hj
    have h1 := congrArg (·[j % 4]?) (cell (j / 4) (by omega))
    simp only [List.getElem?_take, List.getElem?_drop] at h1
    rw [if_pos (by omega), show j / 4 * 4 + j % 4 = j by omega] at h1
    rw [h1]
    have e : j = 4 * (j / 4) + j % 4 := by omega
    rcases (show j % 4 = 0 ∨ j % 4 = 1 ∨ j % 4 = 2 ∨ j % 4 = 3 by omega) with h | h | h | h <;> rw [h] <;> (conv => rhs; rw [e, h]) <;> rfl
  unfold LaneT
  have key : ∀ (n : Nat) (l : List Nat) (i : Nat), l.length = n → (∀ j, j < n → l[j]? = some (lane (i + j))) → i + n ≤ 32 → cellsAt W ⟨0, 0, none⟩ i (l.map fun n : Nat => Value.int .i64 (n : Int)) := by
    intro n
    induction n with
    | zero => intro l i hl _ _; rw [List.eq_nil_of_length_eq_zero hl]; trivial
    | succ n ih =>
      intro l i hl hj hi
      match l, hl with
      | x :: l, hl =>
        have hx := hj 0 (by omega)
        simp at hx
        refine ⟨?_, ih l (i + 1) (by simpa using hl) (fun j hjn => by have := hj (j + 1) (by omega); simp at this; rw [this, show i + (j + 1) = i + 1 + j by omega]) (by omega)⟩
        have hc := World.var?_cell gLanes hvar i
        rw [add_mk, Nat.zero_add, hx]
        rw [hc]
        have := hall i (by omega)
        rw [Array.getElem?_toList] at this
        exact this
  refine key 32 laneL 0 rfl (fun j hj => ?_) (by omega)
  have hl : laneL.length = 32 := rfl
  rw [Nat.zero_add, List.getElem?_eq_getElem (by omega)]
  unfold lane
  rw [getD_at (by omega)]
end Go.Proofs.YtblfbanfepocnaaDoor
