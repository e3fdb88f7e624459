import Derived.Test.YtgmniohbnophdaaBase
import Derived.KernelRfl
namespace Go.Proofs.Ytgmniohbnophdaa
open Go.Sx Go.RowKit
set_option maxRecDepth 100000

def h_law38_AccessApart : H := (.seq .reg (.seq .reg (.seq .reg (.seq .reg (.seq .reg (.seq .reg .leaf))))))
def F_law38_AccessApart (identity : Int) (steps : Int) (preambles : Int) (w : World) (R : Value → World → Prop) : Prop :=
  (kW .i64 (preambles) fun x =>
  (kLet (Int.tmod x (63 : Int)) fun x1 =>
  (kW .i64 ((2 : Int) + x1) fun x2 =>
  (kW .i64 (steps) fun x3 =>
  (kW .i64 (x2 - (1 : Int)) fun x4 =>
  (x4 ≠ 0 ∧ (kLet (Int.tmod x3 x4) fun x5 =>
  (kW .i64 ((1 : Int) + x5) fun x6 =>
  (kW .i64 (identity) fun x7 =>
  (kW .i64 (x6 * x2) fun x8 =>
  (kW .i64 ((65536 : Int) - x8) fun x9 =>
  (x9 ≠ 0 ∧ (kLet (Int.tmod x7 x9) fun x10 =>
  (kW .i64 (x6 * x2) fun x11 =>
  (kW .i64 (x10 + x11) fun x12 =>
  (Calls Try.prog N_access_Preamble #[(.int .i64 x10), (.int .i64 (0 : Int)), (.int .i64 x2)] w fun e_ w1 =>
  ∃ r : Int, e_ = .returned (.int .i64 r) ∧
  (Calls Try.prog N_access_Preamble #[(.int .i64 x12), (.int .i64 (0 : Int)), (.int .i64 x2)] w1 fun e_1 w2 =>
  ∃ r1 : Int, e_1 = .returned (.int .i64 r1) ∧
  (bsplit (decide (r = r1))
    ((Calls Try.prog N_access_Preamble #[(.int .i64 x10), (.int .i64 (1 : Int)), (.int .i64 x2)] w2 fun e_2 w3 =>
    ∃ r2 : Int, e_2 = .returned (.int .i64 r2) ∧
    (Calls Try.prog N_access_Preamble #[(.int .i64 x12), (.int .i64 (1 : Int)), (.int .i64 x2)] w3 fun e_3 w4 =>
    ∃ r3 : Int, e_3 = .returned (.int .i64 r3) ∧
    (bsplit (!decide (r2 = r3))
      ((Calls Try.prog N_law38_awake #[] w4 fun e_4 w5 =>
      ∃ r4 : Bool, e_4 = .returned (.bool r4) ∧
      R (.bool r4) w5))
      (R (.bool false) w4)))))
    (R (.bool false) w2)))))))))))))))))))
theorem F_law38_AccessApart_eq (identity : Int) (steps : Int) (preambles : Int) (w : World) (R : Value → World → Prop) : sxFn Try.prog TT h_law38_AccessApart Try.f4 #[(.int .u16 identity), (.int .u8 steps), (.int .u8 preambles)] w R = F_law38_AccessApart identity steps preambles w R := by kernel_rfl
theorem F_law38_AccessApart_ok {R : Ending → World → Prop} (identity : Int) (steps : Int) (preambles : Int) (w : World) (h : F_law38_AccessApart identity steps preambles w fun v w' => R (.returned v) w') : Calls Try.prog N_law38_AccessApart #[(.int .u16 identity), (.int .u8 steps), (.int .u8 preambles)] w R :=
  calls_of (f := 4) follows_ok Try.func4 (Eq.mpr (F_law38_AccessApart_eq identity steps preambles w _) h)

end Go.Proofs.Ytgmniohbnophdaa
