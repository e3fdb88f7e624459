/- The law StreamExact: called with any arguments, where the package's table holds what its initialiser lays, the function returns true, each argument reads behind the call as it read before, and nothing else that was in memory has turned. No condition beyond the row's own. -/
import Derived.Test.YtblfbanfepocnaaDoorW13i
import Derived.Test.YtblfbanfepocnaaDoorLift
import Derived.Test.YtblfbanfepocnaaDoorLiftLaid
import Derived.Test.YtblfbanfepocnaaDoorLanes
import Derived.Test.YtblfbanfepocnaaDoorCards
import Derived.Test.YtblfbanfepocnaaDoorTie
import Derived.OpenShut
import Derived.ProofKit
namespace Go.Proofs.YtblfbanfepocnaaDoor
open Go.Sx Go.RowKit Go.ChangeShapes Go.WideShapes Go.ChangeAt
theorem streamExact_call {H : Type} {enc : TypeId × Value → H} (W : World) (base : Nat) (args : Array Value) (ds : List (DataW H)) (ps : List MemPlace) (h : LawArgs enc Tryd.prog Tryd.f4 W base args ds ps) (hL : laidMetH Tryd.prog Rows.streamExactRow.laid W) :
    Calls Tryd.prog 4 args W fun e W' => e = .returned (.bool true) ∧ Below W.heap.size W W' := by
  have hT : LaneT W := lanes_of hL
  obtain ⟨hval, hA, hreach⟩ := h
  rw [Tryd.params4] at hA hval hreach
  obtain ⟨v0, vs0, d0, ds0, p0, q0, hargs, rfl, rfl, h0, r0⟩ := trodAll_cons hA
  obtain ⟨v1, vs1, d1, ds1, p1, q1, rfl, rfl, rfl, h1, r1⟩ := trodAll_cons r0
  obtain ⟨v2, vs2, d2, ds2, p2, q2, rfl, rfl, rfl, h2, r2⟩ := trodAll_cons r1
  obtain ⟨rfl, rfl, rfl⟩ := trodAll_nil r2
  obtain rfl : args = #[v0, v1, v2] := by cases args; simp_all
  obtain ⟨a0, c0, xs, rfl, hcap, hx, hwx, hmx⟩ := open_slc Tryd.underlying27 Tryd.underlying5 (by kernel_rfl) (hval 0 _ v0 rfl rfl) h0
  obtain ⟨a1, c1, ys, rfl, hcap1, hy, hwy, hmy⟩ := open_slc Tryd.underlying27 Tryd.underlying5 (by kernel_rfl) (hval 1 _ v1 rfl rfl) h1
  obtain ⟨ns, rfl, hn, _⟩ := open_arrI Tryd.underlying28 Tryd.underlying3 (by kernel_rfl) (by kernel_rfl) (hval 2 _ v2 rfl rfl) h2
  match ns, hn with
  | [n0, n1, n2, n3, n4], _ => exact law_exact hx hcap hy hT

/-- a world for the witness: the settled one, the table holding what its initialiser lays -/
noncomputable def streamExactWorld (os : Os) : World :=
  { World.holding Tryd.prog os ⟨#[], #[], []⟩ with heap := (World.holding Tryd.prog os ⟨#[], #[], []⟩).heap.modify 0 fun
      | .cells _ t frozen => .cells laneA t frozen
      | o => o }
theorem streamExact_met (os : Os) : laidMet Tryd.prog Rows.streamExactRow.laid ((streamExactWorld os).forCall (fun _ _ => 0) ⟨#[], #[.slice none 0 0, .slice none 0 0, .agg #[.int .i64 (0 : Int), .int .i64 (0 : Int), .int .i64 (0 : Int), .int .i64 (0 : Int), .int .i64 (0 : Int)]], []⟩).memory :=
  laidMet_of_run' 8 (by kernel_rfl) (by kernel_rfl)
theorem streamExact_reads (os : Os) {H : Type} (enc : TypeId × Value → H) : ∃ places, DataW.whole enc Tryd.prog ((streamExactWorld os).forCall (fun _ _ => 0) ⟨#[], #[.slice none 0 0, .slice none 0 0, .agg #[.int .i64 (0 : Int), .int .i64 (0 : Int), .int .i64 (0 : Int), .int .i64 (0 : Int), .int .i64 (0 : Int)]], []⟩).memory Tryd.f4.params.toList Rows.streamExactSpec.vars false (#[.slice none 0 0, .slice none 0 0, .agg #[.int .i64 (0 : Int), .int .i64 (0 : Int), .int .i64 (0 : Int), .int .i64 (0 : Int), .int .i64 (0 : Int)]] : Array Value).toList 8 = some ([.nil, .nil, (.agg [(.lit (.int .i64 0)), (.lit (.int .i64 0)), (.lit (.int .i64 0)), (.lit (.int .i64 0)), (.lit (.int .i64 0))])], [], places) :=
  ⟨[], by kernel_rfl⟩
set_option maxRecDepth 100000 in
theorem streamExact_lifted (os : Os) (started : os.Started) (H : Type) (enc : TypeId × Value → H) (F : Stop.Interp) :
    ReturnsInHanded {} Tryd.checked os 4 .any ((OpenSpec.ofChange Rows.streamExactSpec).preRow enc Tryd.prog Tryd.f4 Rows.streamExactRow.domain false Rows.streamExactRow.laid) (((OpenSpec.ofChange Rows.streamExactSpec).at F).post enc Tryd.prog Tryd.f4 false true false false) := by
  obtain ⟨places, hx⟩ := streamExact_reads os enc
  exact law_lift_laid (C := Tryd.checked) (s := Rows.streamExactSpec) (T := 4) (laid := Rows.streamExactRow.laid) (by kernel_rfl) started (by kernel_rfl) Tryd.func4
    (witness_row_at (enc := enc) (C := Tryd.checked) false (streamExactWorld os) #[.slice none 0 0, .slice none 0 0, .agg #[.int .i64 (0 : Int), .int .i64 (0 : Int), .int .i64 (0 : Int), .int .i64 (0 : Int), .int .i64 (0 : Int)]] rfl (by kernel_rfl) (by kernel_rfl) (by kernel_rfl)
      (OpenSpec.preRow_of_cond 8 hx (by kernel_rfl) (fun k hk => by cases hk) (by kernel_rfl) (streamExact_met os)))
    (by kernel_rfl) (by kernel_rfl) rfl rfl Tryd.underlying4
    (fun ds hd => by
      rw [Tryd.params4] at hd
      match ds, hd with
      | [_, _, _], _ => exact ⟨rfl, rfl, rfl⟩)
    (fun W base args ds ps h hL => streamExact_call W base args ds ps h hL)

theorem streamExact_said : Rows.StreamExactSaid :=
  OpenClaim.holds_of_cond 4 Tryd.f4 rfl rfl rfl rfl rfl rfl rfl ⟨rfl, rfl, rfl, rfl, rfl⟩ rfl rfl rfl rfl rfl (by kernel_rfl) Tryd.func4 (by kernel_rfl)
    (of_decide_eq_true (by kernel_rfl)) (by unfold Func.isWrapper; first | (rw [if_pos (by decide +kernel)]; kernel_rfl) | (rw [if_neg (by decide +kernel)]; exact ⟨rfl, rfl⟩))
    (fun os started H enc _ F => by rw [OpenClaim.pre_eq_preRow]; exact streamExact_lifted os started H enc F)

theorem streamExact_plain (f : FuncId) (fn : Func) (hf : Tryd.pinned.checked.prog.funcNamed "radiolink/radiolinklaw13.StreamExact" = some f) (hfn : Tryd.pinned.checked.prog.funcs[f]? = some fn) :
    false = Tryd.pinned.checked.prog.looks [] ∧ ∀ (j : Nat) t, fn.params[j]? = some t → Tryd.pinned.checked.prog.wantsStandIn t = false := by
  obtain rfl : f = 4 := Option.some.inj ((show Tryd.prog.funcNamed "radiolink/radiolinklaw13.StreamExact" = some 4 by kernel_rfl).symm.trans hf) |>.symm
  obtain rfl : fn = Tryd.f4 := (Option.some.inj (Tryd.func4.symm.trans hfn)).symm
  refine ⟨by kernel_rfl, fun j t ht => ?_⟩
  rw [Tryd.params4] at ht
  have hm := Array.mem_of_getElem? ht
  simp only [List.mem_toArray, List.mem_cons, List.not_mem_nil, or_false] at hm
  rcases hm with rfl | rfl | rfl
  · exact (show Tryd.prog.wantsStandIn 27 = false by kernel_rfl)
  · exact (show Tryd.prog.wantsStandIn 27 = false by kernel_rfl)
  · exact (show Tryd.prog.wantsStandIn 28 = false by kernel_rfl)

theorem streamExact_card : Rows.StreamExactCardSaid :=
  Claim7.holds_tied_plain_at .later [] _ _ _ _ streamExact_said (fun _ h => by cases h) (by kernel_rfl) (fun _ h => by cases h) streamExact_row_tie rfl ⟨rfl, rfl⟩ (by kernel_rfl) rfl streamExact_plain (by kernel_rfl)
#print axioms streamExact_card
end Go.Proofs.YtblfbanfepocnaaDoor
