/- The law StreamLimits: called with any arguments, where the package's table holds what its initialiser lays, the function returns true, each argument reads behind the call as it read before, and nothing else that was in memory has turned. No condition beyond the row's own. -/
import Derived.Test.YtblfbanfepocnaaDoorW13g
import Derived.Test.YtblfbanfepocnaaDoorLanes
import Derived.Test.YtblfbanfepocnaaDoorCards
import Derived.Test.YtblfbanfepocnaaDoorTie
import Derived.OpenShut
import Derived.ProofKit
namespace Go.Proofs.YtblfbanfepocnaaDoor
open Go.Sx Go.RowKit Go.ChangeShapes Go.WideShapes Go.ChangeAt
theorem streamLimits_call {H : Type} {enc : TypeId × Value → H} (W : World) (base : Nat) (args : Array Value) (ds : List (DataW H)) (ps : List MemPlace) (h : LawArgs enc Tryd.prog Tryd.f5 W base args ds ps) (hL : laidMetH Tryd.prog Rows.streamLimitsRow.laid W) :
    Calls Tryd.prog 5 args W fun e W' => e = .returned (.bool true) ∧ Below W.heap.size W W' := by
  have hT : LaneT W := lanes_of hL
  obtain ⟨hval, hA, hreach⟩ := h
  rw [Tryd.params5] at hA hval hreach
  obtain ⟨v0, vs0, d0, ds0, p0, q0, hargs, rfl, rfl, h0, r0⟩ := trodAll_cons hA
  obtain ⟨v1, vs1, d1, ds1, p1, q1, rfl, rfl, rfl, h1, r1⟩ := trodAll_cons r0
  obtain ⟨rfl, rfl, rfl⟩ := trodAll_nil r1
  obtain rfl : args = #[v0, v1] := by cases args; simp_all
  obtain ⟨a0, rfl, rfl, rfl, x0⟩ := open_int Tryd.underlying3 (hval 0 _ v0 rfl rfl) h0
  obtain ⟨a1, rfl, rfl, rfl, x1⟩ := open_int Tryd.underlying3 (hval 1 _ v1 rfl rfl) h1
  exact law_limits a0 a1 hT

/-- a world for the witness: the settled one, the table holding what its initialiser lays -/
noncomputable def streamLimitsWorld (os : Os) : World :=
  { World.holding Tryd.prog os ⟨#[], #[], []⟩ with heap := (World.holding Tryd.prog os ⟨#[], #[], []⟩).heap.modify 0 fun
      | .cells _ t frozen => .cells laneA t frozen
      | o => o }
theorem streamLimits_met (os : Os) : laidMet Tryd.prog Rows.streamLimitsRow.laid ((streamLimitsWorld os).forCall (fun _ _ => 0) ⟨#[], #[.int .i64 0, .int .i64 0], []⟩).memory :=
  laidMet_of_run' 8 (by kernel_rfl) (by kernel_rfl)
theorem streamLimits_reads (os : Os) {H : Type} (enc : TypeId × Value → H) : ∃ places, DataW.whole enc Tryd.prog ((streamLimitsWorld os).forCall (fun _ _ => 0) ⟨#[], #[.int .i64 0, .int .i64 0], []⟩).memory Tryd.f5.params.toList Rows.streamLimitsSpec.vars false (#[.int .i64 0, .int .i64 0] : Array Value).toList 8 = some ([(.lit (.int .i64 0)), (.lit (.int .i64 0))], [], places) :=
  ⟨[], by kernel_rfl⟩
set_option maxRecDepth 100000 in
theorem streamLimits_lifted (os : Os) (started : os.Started) (H : Type) (enc : TypeId × Value → H) (F : Stop.Interp) :
    ReturnsInHanded {} Tryd.checked os 5 .any ((OpenSpec.ofChange Rows.streamLimitsSpec).preRow enc Tryd.prog Tryd.f5 Rows.streamLimitsRow.domain false Rows.streamLimitsRow.laid) (((OpenSpec.ofChange Rows.streamLimitsSpec).at F).post enc Tryd.prog Tryd.f5 false true false false) := by
  obtain ⟨places, hx⟩ := streamLimits_reads os enc
  exact law_lift_laid (C := Tryd.checked) (s := Rows.streamLimitsSpec) (T := 4) (laid := Rows.streamLimitsRow.laid) (by kernel_rfl) started (by kernel_rfl) Tryd.func5
    (witness_row_at (enc := enc) (C := Tryd.checked) false (streamLimitsWorld os) #[.int .i64 0, .int .i64 0] rfl (by kernel_rfl) (by kernel_rfl) (by kernel_rfl)
      (OpenSpec.preRow_of_cond 8 hx (by kernel_rfl) (fun k hk => by cases hk) (by kernel_rfl) (streamLimits_met os)))
    (by kernel_rfl) (by kernel_rfl) rfl rfl Tryd.underlying4
    (fun ds hd => by
      rw [Tryd.params5] at hd
      match ds, hd with
      | [_, _], _ => exact ⟨rfl, rfl, rfl⟩)
    (fun W base args ds ps h hL => streamLimits_call W base args ds ps h hL)

theorem streamLimits_said : Rows.StreamLimitsSaid :=
  OpenClaim.holds_of_cond 5 Tryd.f5 rfl rfl rfl rfl rfl rfl rfl ⟨rfl, rfl, rfl, rfl, rfl⟩ rfl rfl rfl rfl rfl (by kernel_rfl) Tryd.func5 (by kernel_rfl)
    (of_decide_eq_true (by kernel_rfl)) (by unfold Func.isWrapper; first | (rw [if_pos (by decide +kernel)]; kernel_rfl) | (rw [if_neg (by decide +kernel)]; exact ⟨rfl, rfl⟩))
    (fun os started H enc _ F => by rw [OpenClaim.pre_eq_preRow]; exact streamLimits_lifted os started H enc F)

theorem streamLimits_plain (f : FuncId) (fn : Func) (hf : Tryd.pinned.checked.prog.funcNamed "radiolink/radiolinklaw13.StreamLimits" = some f) (hfn : Tryd.pinned.checked.prog.funcs[f]? = some fn) :
    false = Tryd.pinned.checked.prog.looks [] ∧ ∀ (j : Nat) t, fn.params[j]? = some t → Tryd.pinned.checked.prog.wantsStandIn t = false := by
  obtain rfl : f = 5 := Option.some.inj ((show Tryd.prog.funcNamed "radiolink/radiolinklaw13.StreamLimits" = some 5 by kernel_rfl).symm.trans hf) |>.symm
  obtain rfl : fn = Tryd.f5 := (Option.some.inj (Tryd.func5.symm.trans hfn)).symm
  refine ⟨by kernel_rfl, fun j t ht => ?_⟩
  rw [Tryd.params5] at ht
  have hm := Array.mem_of_getElem? ht
  simp only [List.mem_toArray, List.mem_cons, List.not_mem_nil, or_false] at hm
  rcases hm with rfl | rfl
  · exact (show Tryd.prog.wantsStandIn 3 = false by kernel_rfl)
  · exact (show Tryd.prog.wantsStandIn 3 = false by kernel_rfl)

theorem streamLimits_card : Rows.StreamLimitsCardSaid :=
  Claim7.holds_tied_plain_at .later [] _ _ _ _ streamLimits_said (fun _ h => by cases h) (by kernel_rfl) (fun _ h => by cases h) streamLimits_row_tie rfl ⟨rfl, rfl⟩ (by kernel_rfl) rfl streamLimits_plain (by kernel_rfl)
#print axioms streamLimits_card
end Go.Proofs.YtblfbanfepocnaaDoor
