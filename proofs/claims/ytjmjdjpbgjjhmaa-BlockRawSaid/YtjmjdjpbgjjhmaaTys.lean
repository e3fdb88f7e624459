import Derived.Test.YtjmjdjpbgjjhmaaBase
import Derived.Test.YtjmjdjpbgjjhmaaHp
import Derived.KernelRfl
namespace Go.Proofs.Ytjmjdjpbgjjhmaa
open Go.Sx
theorem sl_Ty_S_api_Section : SlTy Try.prog Ty_S_api_Section Ty_api_Section 2 32 (.agg #[.int .i64 (0 : Int), .slice none 0 0]) := ⟨by kernel_rfl, by kernel_rfl, rfl, by decide⟩
theorem sl_Ty_S_uint8 : SlTy Try.prog Ty_S_uint8 Ty_uint8 1 1 (.int .u8 (0 : Int)) := ⟨by kernel_rfl, by kernel_rfl, rfl, by decide⟩
theorem sl_Ty_S_int : SlTy Try.prog Ty_S_int Ty_int 1 8 (.int .i64 (0 : Int)) := ⟨by kernel_rfl, by kernel_rfl, rfl, by decide⟩
theorem sl_Ty_S_S_uint8 : SlTy Try.prog Ty_S_S_uint8 Ty_S_uint8 1 24 (.slice none 0 0) := ⟨by kernel_rfl, by kernel_rfl, rfl, by decide⟩
end Go.Proofs.Ytjmjdjpbgjjhmaa
