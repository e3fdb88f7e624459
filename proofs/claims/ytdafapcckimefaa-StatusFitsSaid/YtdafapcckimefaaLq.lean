import Derived.Test.YtdafapcckimefaaForms
import Derived.Test.YtdafapcckimefaaTys
import Derived.Test.YtdafapcckimefaaHp
/- Whether bytes are the same. -/
namespace Go.Proofs.Ytdafapcckimefaa
open Go.Sx Go.RowKit
theorem bytes_Equal_ct {a b : Option Addr} {c1 c2 : Nat} {xs ys : List Int} {w : World} (ha : SlR (IntC .u8) 1 w a xs) (hb : SlR (IntC .u8) 1 w b ys) (hx : Bytes xs) (hy : Bytes ys) :
    Calls Try.prog N_bytes_Equal #[.slice a xs.length c1, .slice b ys.length c2] w fun e w' => e = .returned (.bool (decide (xs = ys))) ∧ Below w.heap.size w w' := by
  apply F_bytes_Equal_ok
  unfold F_bytes_Equal
  refine convS_bytes (e := Ty_uint8) (by kernel_rfl) (by kernel_rfl) (by kernel_rfl) ha ?_
  refine convS_bytes (e := Ty_uint8) (by kernel_rfl) (by kernel_rfl) (by kernel_rfl) hb ?_
  refine ⟨?_, .refl _ _⟩
  rw [str_beq hx hy]
theorem ref01_Same_ct {a b : Option Addr} {c1 c2 : Nat} {xs ys : List Int} {w : World} (ha : SlR (IntC .u8) 1 w a xs) (hb : SlR (IntC .u8) 1 w b ys) (hx : Bytes xs) (hy : Bytes ys) :
    Calls Try.prog N_ref01_Same #[.slice a xs.length c1, .slice b ys.length c2] w fun e w' => e = .returned (.bool (decide (xs = ys))) ∧ Below w.heap.size w w' := by
  apply F_ref01_Same_ok
  unfold F_ref01_Same
  refine convS_bytes (e := Ty_uint8) (by kernel_rfl) (by kernel_rfl) (by kernel_rfl) ha ?_
  refine convS_bytes (e := Ty_uint8) (by kernel_rfl) (by kernel_rfl) (by kernel_rfl) hb ?_
  refine ⟨?_, .refl _ _⟩
  rw [str_beq hx hy]
end Go.Proofs.Ytdafapcckimefaa
