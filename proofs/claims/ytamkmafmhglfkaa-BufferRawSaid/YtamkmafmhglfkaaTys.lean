import Derived.Test.YtamkmafmhglfkaaBase
import Derived.Test.YtamkmafmhglfkaaHp
import Derived.KernelRfl
namespace Go.Proofs.Ytamkmafmhglfkaa
open Go.Sx
theorem sl_Ty_S_uint16 : SlTy Try.prog Ty_S_uint16 Ty_uint16 1 2 (.int .u16 (0 : Int)) := ⟨by kernel_rfl, by kernel_rfl, rfl, by decide⟩
theorem sl_Ty_S_uint8 : SlTy Try.prog Ty_S_uint8 Ty_uint8 1 1 (.int .u8 (0 : Int)) := ⟨by kernel_rfl, by kernel_rfl, rfl, by decide⟩
theorem sl_Ty_S_int : SlTy Try.prog Ty_S_int Ty_int 1 8 (.int .i64 (0 : Int)) := ⟨by kernel_rfl, by kernel_rfl, rfl, by decide⟩
end Go.Proofs.Ytamkmafmhglfkaa
