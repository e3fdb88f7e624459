import Derived.Test.YtblfbanfepocnaaDoorLift
import Derived.Deep.DeepHandedRow
import Derived.Lib.LaidTab
/- THE FRAME OF A LAW over listed package variables: as Lift, with what the row's list says of the world. -/
namespace Go.Sx
open Go.ChangeShapes Go.WideShapes Go.ChangeAt Go.RowKit

theorem law_lift_laid {C : Checked} {os : Os} {f : FuncId} {fn : Func} {s : ChangeSpec} {H : Type} {enc : TypeId × Value → H} {T : TypeId} {laid : List (String × DataW Unit)} {F : Stop.Interp}
    (own : ownKnob C.prog.godebug = none) (started : os.Started) (noInit : C.prog.inits.idxOf? f = none) (hfn : C.prog.funcs[f]? = some fn)
    (witness : ∃ (w : World) (tape : Tape) (i : Input), w.os = os ∧ (w.forCall tape i).Shaped C.prog ∧ i.vars = [] ∧ Input.okWide C.prog (w.forCall tape i) .any w.heap.size f i ∧
      (OpenSpec.ofChange s).preRow enc C.prog fn [] false laid (w.forCall tape i).memory i.args ∧ Assume.holds {} C.prog (lone (Frame.enter C.prog f i.args .normal) [] (w.forCall tape i)))
    (hl : laidOutB C.prog = true) (hr : (fn.params.toList.all fun t => C.prog.readableRec t && decide (t < C.prog.types.size)) = true)
    (hv : s.vars = []) (hres : fn.resultTypes = #[T]) (hT : C.prog.underlying T = some .bool)
    (hs : ∀ ds : List (DataW H), ds.length = fn.params.toList.length → (s.fn H ds).results = [.lit (.bool true)] ∧ (s.fn H ds).args = ds ∧ (s.fn H ds).vars = [])
    (contract : ∀ (W : World) (base : Nat) (args : Array Value) (ds : List (DataW H)) (ps : List MemPlace), LawArgs enc C.prog fn W base args ds ps → laidMetH C.prog laid W →
      Calls C.prog f args W fun e W' => e = .returned (.bool true) ∧ Below W.heap.size W W') :
    ReturnsInHanded {} C os f .any ((OpenSpec.ofChange s).preRow enc C.prog fn [] false laid) (((OpenSpec.ofChange s).at F).post enc C.prog fn false true false false) := by
  refine returnsInHanded_of_row own started noInit hfn witness ?_
  intro W base args ds gs before hval hW _ _ hsz hL _ _
  have hW' := hW
  obtain ⟨p, q, hA, hV, rfl, hfz, hnd⟩ := hW
  have hV' : DataW.TrodVars enc C.prog W (fun _ => true) s.vars gs q := hV
  rw [hv] at hV'
  obtain ⟨rfl, rfl⟩ := trodVars_none hV'
  have hlen := trodAll_length hA
  have hvt : s.plain.varTypes C.prog = [] := by simp [ChangeSpec.plain, hv, WideSpec.plain, DataSpec.varTypes]
  have hsz' : (DataW.weightsEach C.prog (fn.params.toList ++ s.plain.varTypes C.prog) (ds ++ [])).all (· ≤ reachBytes) = true := hsz
  refine (contract W base args ds p ⟨hval, hA, by simpa [hvt] using hsz'⟩ hL).mono fun e W' ⟨he, hb⟩ => ⟨_, he, ?_⟩
  obtain ⟨e1, e2, e3⟩ := hs ds hlen.1
  have hlt : ∀ x ∈ p, x.block < W.heap.size := fun x hx => hW'.lt x (by simp [hx])
  show s.post enc C.prog fn false true false false W args (.bool true) W'
  refine ⟨ds, [], p ++ [], [], p, [], hW', ?_, ?_, ?_, ?_, fun h => by cases h⟩
  · rw [List.append_nil, e1, hres]
    exact trodAll_mk1 (shut_bool hT _)
  · rw [List.append_nil, e2]
    refine trodAll_below hl hb (fun t ht => ?_) hA hlt
    have := List.all_eq_true.1 hr t ht
    simpa using this
  · rw [List.append_nil, e3, hv]; rfl
  · exact hb.frame _
end Go.Sx
