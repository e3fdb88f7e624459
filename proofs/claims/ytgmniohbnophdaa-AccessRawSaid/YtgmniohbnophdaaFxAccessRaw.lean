import Derived.Test.YtgmniohbnophdaaBase
import Derived.KernelRfl
namespace Go.Proofs.Ytgmniohbnophdaa
open Go.Sx Go.RowKit
set_option maxRecDepth 100000

def h_law38_AccessRaw : H := (.seq .reg (.seq .reg .leaf))
def F_law38_AccessRaw (a_0 : Int) (a_1 : Int) (a_2 : Int) (a_3_a : Option Addr) (a_3_l : Nat) (a_3_c : Nat) (identity : Int) (tries : Int) (preambles : Int) (tick : Int) (w : World) (R : Value → World → Prop) : Prop :=
  (kAlloc w #[(.int .i64 a_0), (.int .i64 a_1), (.int .i64 a_2), (.slice a_3_a a_3_l a_3_c)] Ty_api_Access fun b w1 =>
  (kLdS w1 ⟨b, 3, none⟩ fun _ x_l _ =>
  (bsplit (decide ((x_l : Int) > (60 : Int)))
    ((Calls Try.prog N_access_Preamble #[(.int .i64 identity), (.int .i64 tries), (.int .i64 preambles)] w1 fun e_ w2 =>
    ∃ r : Int, e_ = .returned (.int .i64 r) ∧
    (Calls Try.prog N_ref38_Preamble #[(.int .i64 identity), (.int .i64 tries), (.int .i64 preambles)] w2 fun e_1 w3 =>
    ∃ r1 : Int, e_1 = .returned (.int .i64 r1) ∧
    (bsplit (decide (r = r1))
      ((Calls Try.prog N_law38_awake #[] w3 fun e_2 w4 =>
      ∃ r2 : Bool, e_2 = .returned (.bool r2) ∧
      R (.bool r2) w4))
      (R (.bool false) w3)))))
    ((∃ x_0 x_1 x_2 : Int, ∃ x_3_a : Option Addr, ∃ x_3_l x_3_c : Nat, cellsAt w1 ⟨b, 0, none⟩ 0 [(.int .i64 x_0), (.int .i64 x_1), (.int .i64 x_2), (.slice x_3_a x_3_l x_3_c)] ∧
    (Calls Try.prog N_law38_agree #[(.agg #[.int .i64 x_0, .int .i64 x_1, .int .i64 x_2, .slice x_3_a x_3_l x_3_c]), (.int .i64 identity), (.int .i64 tick)] w1 fun e_3 w5 =>
    ∃ r3 : Bool, e_3 = .returned (.bool r3) ∧
    (bsplit r3
      ((Calls Try.prog N_access_Preamble #[(.int .i64 identity), (.int .i64 tries), (.int .i64 preambles)] w5 fun e_4 w6 =>
      ∃ r4 : Int, e_4 = .returned (.int .i64 r4) ∧
      (Calls Try.prog N_ref38_Preamble #[(.int .i64 identity), (.int .i64 tries), (.int .i64 preambles)] w6 fun e_5 w7 =>
      ∃ r5 : Int, e_5 = .returned (.int .i64 r5) ∧
      (bsplit (decide (r4 = r5))
        ((Calls Try.prog N_law38_awake #[] w7 fun e_6 w8 =>
        ∃ r6 : Bool, e_6 = .returned (.bool r6) ∧
        R (.bool r6) w8))
        (R (.bool false) w7)))))
      (R (.bool false) w5))))))))
theorem F_law38_AccessRaw_eq (a_0 : Int) (a_1 : Int) (a_2 : Int) (a_3_a : Option Addr) (a_3_l : Nat) (a_3_c : Nat) (identity : Int) (tries : Int) (preambles : Int) (tick : Int) (w : World) (R : Value → World → Prop) : sxFn Try.prog TT h_law38_AccessRaw Try.f6 #[(.agg #[.int .i64 a_0, .int .i64 a_1, .int .i64 a_2, .slice a_3_a a_3_l a_3_c]), (.int .i64 identity), (.int .i64 tries), (.int .i64 preambles), (.int .i64 tick)] w R = F_law38_AccessRaw a_0 a_1 a_2 a_3_a a_3_l a_3_c identity tries preambles tick w R := by kernel_rfl
theorem F_law38_AccessRaw_ok {R : Ending → World → Prop} (a_0 : Int) (a_1 : Int) (a_2 : Int) (a_3_a : Option Addr) (a_3_l : Nat) (a_3_c : Nat) (identity : Int) (tries : Int) (preambles : Int) (tick : Int) (w : World) (h : F_law38_AccessRaw a_0 a_1 a_2 a_3_a a_3_l a_3_c identity tries preambles tick w fun v w' => R (.returned v) w') : Calls Try.prog N_law38_AccessRaw #[(.agg #[.int .i64 a_0, .int .i64 a_1, .int .i64 a_2, .slice a_3_a a_3_l a_3_c]), (.int .i64 identity), (.int .i64 tries), (.int .i64 preambles), (.int .i64 tick)] w R :=
  calls_of (f := 6) follows_ok Try.func6 (Eq.mpr (F_law38_AccessRaw_eq a_0 a_1 a_2 a_3_a a_3_l a_3_c identity tries preambles tick w _) h)

end Go.Proofs.Ytgmniohbnophdaa
