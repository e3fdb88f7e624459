import Derived.Test.YtgmniohbnophdaaBase
import Derived.Test.YtgmniohbnophdaaHp
import Derived.KernelRfl
namespace Go.Proofs.Ytgmniohbnophdaa
open Go.Sx
theorem sl_Ty_S_uint8 : SlTy Try.prog Ty_S_uint8 Ty_uint8 1 1 (.int .u8 (0 : Int)) := ⟨by kernel_rfl, by kernel_rfl, rfl, by decide⟩
theorem sl_Ty_S_api_Attempt : SlTy Try.prog Ty_S_api_Attempt Ty_api_Attempt 4 32 (.agg #[.int .i64 (0 : Int), .int .i64 (0 : Int), .int .i64 (0 : Int), .int .i64 (0 : Int)]) := ⟨by kernel_rfl, by kernel_rfl, rfl, by decide⟩
theorem sl_Ty_S_int : SlTy Try.prog Ty_S_int Ty_int 1 8 (.int .i64 (0 : Int)) := ⟨by kernel_rfl, by kernel_rfl, rfl, by decide⟩
end Go.Proofs.Ytgmniohbnophdaa
