import Derived.Test.YtblfbanfepocnaaDoorBase
import Derived.Test.YtblfbanfepocnaaDoorHp
import Derived.KernelRfl
namespace Go.Proofs.YtblfbanfepocnaaDoor
open Go.Sx
theorem sl_Ty_S_uint8 : SlTy Tryd.prog Ty_S_uint8 Ty_uint8 1 1 (.int .u8 (0 : Int)) := ⟨by kernel_rfl, by kernel_rfl, rfl, by decide⟩
theorem sl_Ty_S_uint32 : SlTy Tryd.prog Ty_S_uint32 Ty_uint32 1 4 (.int .u32 (0 : Int)) := ⟨by kernel_rfl, by kernel_rfl, rfl, by decide⟩
end Go.Proofs.YtblfbanfepocnaaDoor
