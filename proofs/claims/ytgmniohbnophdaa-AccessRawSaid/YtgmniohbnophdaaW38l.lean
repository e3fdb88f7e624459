import Derived.Test.YtgmniohbnophdaaW38k
import Derived.Test.YtgmniohbnophdaaFxAccessRaw
/- CHAPTER 38: AccessRaw. -/
set_option maxRecDepth 100000
namespace Go.Proofs.Ytgmniohbnophdaa
open Go.Sx Go.RowKit Go.P38
section
variable {w : World} {p : Option Addr} {c : Nat} {a : Ac} {id tries pr tick : Int}
theorem law38_AccessRaw_ct (hs : SlR (CE encAt) 4 w p a.l) (hcap : a.l.length ≤ c) :
    Calls Try.prog N_law38_AccessRaw #[aggAc a p c, .int .i64 id, .int .i64 tries, .int .i64 pr, .int .i64 tick] w fun e w' => e = .returned (.bool true) ∧ Below w.heap.size w w' := by
  apply F_law38_AccessRaw_ok
  unfold F_law38_AccessRaw
  have H := St.nil w
  have last : ∀ {w1 : World} {R : List Res} {F : Value → World → Prop}, FreshR w w1 R → (∀ w', Below w.heap.size w w' → F (.bool true) w') →
      Calls Try.prog N_access_Preamble #[(.int .i64 id), (.int .i64 tries), (.int .i64 pr)] w1 fun e_ w2 => ∃ r : Int, e_ = .returned (.int .i64 r) ∧
        Calls Try.prog N_ref38_Preamble #[(.int .i64 id), (.int .i64 tries), (.int .i64 pr)] w2 fun e_1 w3 => ∃ r1 : Int, e_1 = .returned (.int .i64 r1) ∧
        (bsplit (decide (r = r1)) (Calls Try.prog N_law38_awake #[] w3 fun e_2 w4 => ∃ r2 : Bool, e_2 = .returned (.bool r2) ∧ F (.bool r2) w4) (F (.bool false) w3)) := fun {w1 R F} H1 hF => by
    refine access_Preamble_ct.mono ?_
    rintro _ w2 ⟨rfl, hb2⟩; have H2 := H1.pass hb2; clear H1
    refine ⟨_, rfl, ?_⟩
    refine ref38_Preamble_ct.mono ?_
    rintro _ w3 ⟨rfl, hb3⟩; have H3 := H2.pass hb3; clear H2
    refine ⟨_, rfl, ?_⟩
    refine bsplit_dec (fun _ => ?_) (fun c => absurd rfl c)
    refine law38_awake_ct.mono ?_
    rintro _ w4 ⟨rfl, hb4⟩; have H4 := H3.pass hb4; clear H3
    exact ⟨_, rfl, hF _ H4.below⟩
  refine H.alloc ?_; clear H; intro b w1 H1
  replace H1 : FreshR w w1 [acBlk b a p c] := H1
  refine H1.ldS (i := 0) rfl rfl ?_
  refine bsplit_dec (fun c3 => ?_) (fun c3 => ?_)
  · exact last (F := fun v w' => Ending.returned v = .returned (.bool true) ∧ Below w.heap.size w w') H1 fun w' hb => ⟨rfl, hb⟩
  · refine ⟨_, _, _, _, _, _, H1.cells (i := 0) rfl, ?_⟩
    refine (agree_ct (hs.belowE H1.below) hcap (by omega)).mono ?_
    rintro _ w5 ⟨rfl, hb5⟩; have H5 := H1.pass hb5; clear H1
    refine ⟨_, rfl, ?_⟩
    refine bsplit_intro (fun _ => ?_) (fun c => by cases c)
    exact last (F := fun v w' => Ending.returned v = .returned (.bool true) ∧ Below w.heap.size w w') H5 fun w' hb => ⟨rfl, hb⟩
end
end Go.Proofs.Ytgmniohbnophdaa
