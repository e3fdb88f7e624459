/- The law StreamBlocks: called with any arguments, where the package's table holds what its initialiser lays, the function returns true, each argument reads behind the call as it read before, and nothing else that was in memory has turned. No condition beyond the row's own. -/
import Derived.Test.YtblfbanfepocnaaDoorW13g
import Derived.Test.YtblfbanfepocnaaDoorLanes
import Derived.Test.YtblfbanfepocnaaDoorCards
import Derived.Test.YtblfbanfepocnaaDoorTie
import Derived.OpenShut
import Derived.ProofKit
namespace Go.Proofs.YtblfbanfepocnaaDoor
open Go.Sx Go.RowKit Go.ChangeShapes Go.WideShapes Go.ChangeAt
theorem streamBlocks_call {H : Type} {enc : TypeId × Value → H} (W : World) (base : Nat) (args : Array Value) (ds : List (DataW H)) (ps : List MemPlace) (h : LawArgs enc Tryd.prog Tryd.f7 W base args ds ps) (hL : laidMetH Tryd.prog Rows.streamBlocksRow.laid W) :
    Calls Tryd.prog 7 args W fun e W' => e = .returned (.bool true) ∧ Below W.heap.size W W' := by
  have hT : LaneT W := lanes_of hL
  obtain ⟨hval, hA, hreach⟩ := h
  rw [Tryd.params7] at hA hval hreach
  obtain ⟨v0, vs0, d0, ds0, p0, q0, hargs, rfl, rfl, h0, r0⟩ := trodAll_cons hA
  obtain ⟨rfl, rfl, rfl⟩ := trodAll_nil r0
  obtain rfl : args = #[v0] := by cases args; simp_all
  obtain ⟨ns, rfl, hn, _⟩ := open_arrI Tryd.underlying38 Tryd.underlying3 (by kernel_rfl) (by kernel_rfl) (hval 0 _ v0 rfl rfl) h0
  obtain ⟨n0, n1, n2, rfl⟩ := len3 hn
  exact law_blocks hT

/-- a world for the witness: the settled one, the table holding what its initialiser lays -/
noncomputable def streamBlocksWorld (os : Os) : World :=
  { World.holding Tryd.prog os ⟨#[], #[], []⟩ with heap := (World.holding Tryd.prog os ⟨#[], #[], []⟩).heap.modify 0 fun
      | .cells _ t frozen => .cells laneA t frozen
      | o => o }
theorem streamBlocks_met (os : Os) : laidMet Tryd.prog Rows.streamBlocksRow.laid ((streamBlocksWorld os).forCall (fun _ _ => 0) ⟨#[], #[.agg #[.int .i64 (0 : Int), .int .i64 (0 : Int), .int .i64 (0 : Int)]], []⟩).memory :=
  laidMet_of_run' 8 (by kernel_rfl) (by kernel_rfl)
theorem streamBlocks_reads (os : Os) {H : Type} (enc : TypeId × Value → H) : ∃ places, DataW.whole enc Tryd.prog ((streamBlocksWorld os).forCall (fun _ _ => 0) ⟨#[], #[.agg #[.int .i64 (0 : Int), .int .i64 (0 : Int), .int .i64 (0 : Int)]], []⟩).memory Tryd.f7.params.toList Rows.streamBlocksSpec.vars false (#[.agg #[.int .i64 (0 : Int), .int .i64 (0 : Int), .int .i64 (0 : Int)]] : Array Value).toList 8 = some ([(.agg [(.lit (.int .i64 0)), (.lit (.int .i64 0)), (.lit (.int .i64 0))])], [], places) :=
  ⟨[], by kernel_rfl⟩
set_option maxRecDepth 100000 in
theorem streamBlocks_lifted (os : Os) (started : os.Started) (H : Type) (enc : TypeId × Value → H) (F : Stop.Interp) :
    ReturnsInHanded {} Tryd.checked os 7 .any ((OpenSpec.ofChange Rows.streamBlocksSpec).preRow enc Tryd.prog Tryd.f7 Rows.streamBlocksRow.domain false Rows.streamBlocksRow.laid) (((OpenSpec.ofChange Rows.streamBlocksSpec).at F).post enc Tryd.prog Tryd.f7 false true false false) := by
  obtain ⟨places, hx⟩ := streamBlocks_reads os enc
  exact law_lift_laid (C := Tryd.checked) (s := Rows.streamBlocksSpec) (T := 4) (laid := Rows.streamBlocksRow.laid) (by kernel_rfl) started (by kernel_rfl) Tryd.func7
    (witness_row_at (enc := enc) (C := Tryd.checked) false (streamBlocksWorld os) #[.agg #[.int .i64 (0 : Int), .int .i64 (0 : Int), .int .i64 (0 : Int)]] rfl (by kernel_rfl) (by kernel_rfl) (by kernel_rfl)
      (OpenSpec.preRow_of_cond 8 hx (by kernel_rfl) (fun k hk => by cases hk) (by kernel_rfl) (streamBlocks_met os)))
    (by kernel_rfl) (by kernel_rfl) rfl rfl Tryd.underlying4
    (fun ds hd => by
      rw [Tryd.params7] at hd
      match ds, hd with
      | [_], _ => exact ⟨rfl, rfl, rfl⟩)
    (fun W base args ds ps h hL => streamBlocks_call W base args ds ps h hL)

theorem streamBlocks_said : Rows.StreamBlocksSaid :=
  OpenClaim.holds_of_cond 7 Tryd.f7 rfl rfl rfl rfl rfl rfl rfl ⟨rfl, rfl, rfl, rfl, rfl⟩ rfl rfl rfl rfl rfl (by kernel_rfl) Tryd.func7 (by kernel_rfl)
    (of_decide_eq_true (by kernel_rfl)) (by unfold Func.isWrapper; first | (rw [if_pos (by decide +kernel)]; kernel_rfl) | (rw [if_neg (by decide +kernel)]; exact ⟨rfl, rfl⟩))
    (fun os started H enc _ F => by rw [OpenClaim.pre_eq_preRow]; exact streamBlocks_lifted os started H enc F)

theorem streamBlocks_plain (f : FuncId) (fn : Func) (hf : Tryd.pinned.checked.prog.funcNamed "radiolink/radiolinklaw13.StreamBlocks" = some f) (hfn : Tryd.pinned.checked.prog.funcs[f]? = some fn) :
    false = Tryd.pinned.checked.prog.looks [] ∧ ∀ (j : Nat) t, fn.params[j]? = some t → Tryd.pinned.checked.prog.wantsStandIn t = false := by
  obtain rfl : f = 7 := Option.some.inj ((show Tryd.prog.funcNamed "radiolink/radiolinklaw13.StreamBlocks" = some 7 by kernel_rfl).symm.trans hf) |>.symm
  obtain rfl : fn = Tryd.f7 := (Option.some.inj (Tryd.func7.symm.trans hfn)).symm
  refine ⟨by kernel_rfl, fun j t ht => ?_⟩
  rw [Tryd.params7] at ht
  have hm := Array.mem_of_getElem? ht
  simp only [List.mem_toArray, List.mem_cons, List.not_mem_nil, or_false] at hm
  rcases hm with rfl
  · exact (show Tryd.prog.wantsStandIn 38 = false by kernel_rfl)

theorem streamBlocks_card : Rows.StreamBlocksCardSaid :=
  Claim7.holds_tied_plain_at .later [] _ _ _ _ streamBlocks_said (fun _ h => by cases h) (by kernel_rfl) (fun _ h => by cases h) streamBlocks_row_tie rfl ⟨rfl, rfl⟩ (by kernel_rfl) rfl streamBlocks_plain (by kernel_rfl)
#print axioms streamBlocks_card
end Go.Proofs.YtblfbanfepocnaaDoor
