import Derived.Test.YtblfbanfepocnaaDoorForms
import Derived.Test.YtblfbanfepocnaaDoorHp
namespace Go.Proofs.YtblfbanfepocnaaDoor
open Go.Sx Go.RowKit
theorem same_ok {a b : Option Addr} {c1 c2 : Nat} {xs ys : List Int} {w : World} (ha : SlR (IntC .u8) 1 w a xs) (hb : SlR (IntC .u8) 1 w b ys) (hx : Bytes xs) (hy : Bytes ys) :
    Calls Tryd.prog N_ref01_Same #[.slice a xs.length c1, .slice b ys.length c2] w fun e w' => e = .returned (.bool (decide (xs = ys))) ∧ w' = w := by
  apply F_ref01_Same_ok
  unfold F_ref01_Same
  refine convS_bytes (e := Ty_uint8) (by kernel_rfl) (by kernel_rfl) (by kernel_rfl) ha ?_
  refine convS_bytes (e := Ty_uint8) (by kernel_rfl) (by kernel_rfl) (by kernel_rfl) hb ?_
  refine ⟨?_, rfl⟩
  rw [str_beq hx hy]
end Go.Proofs.YtblfbanfepocnaaDoor
