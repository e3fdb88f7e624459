import Derived.Test.YtmbppohkadmjgaaGreatBase
import Derived.Test.YtmbppohkadmjgaaGreatHp
import Derived.KernelRfl
namespace Go.Proofs.YtmbppohkadmjgaaGreat
open Go.Sx
theorem sl_Ty_S_S_uint8 : SlTy Tryz.prog Ty_S_S_uint8 Ty_S_uint8 1 24 (.slice none 0 0) := ⟨by kernel_rfl, by kernel_rfl, rfl, by decide⟩
theorem sl_Ty_S_api_Step : SlTy Tryz.prog Ty_S_api_Step Ty_api_Step 2 16 (.agg #[.int .i64 (0 : Int), .int .i64 (0 : Int)]) := ⟨by kernel_rfl, by kernel_rfl, rfl, by decide⟩
theorem sl_Ty_S_uint8 : SlTy Tryz.prog Ty_S_uint8 Ty_uint8 1 1 (.int .u8 (0 : Int)) := ⟨by kernel_rfl, by kernel_rfl, rfl, by decide⟩
theorem sl_Ty_S_api_Unit : SlTy Tryz.prog Ty_S_api_Unit Ty_api_Unit 5 72 (.agg #[.int .i64 (0 : Int), .slice none 0 0, .int .i64 (0 : Int), .int .i64 (0 : Int), .slice none 0 0]) := ⟨by kernel_rfl, by kernel_rfl, rfl, by decide⟩
theorem sl_Ty_S_api_Partial : SlTy Tryz.prog Ty_S_api_Partial Ty_api_Partial 5 72 (.agg #[.int .i64 (0 : Int), .bool false, .int .i64 (0 : Int), .slice none 0 0, .slice none 0 0]) := ⟨by kernel_rfl, by kernel_rfl, rfl, by decide⟩
theorem sl_Ty_S_api_Range : SlTy Tryz.prog Ty_S_api_Range Ty_api_Range 3 24 (.agg #[.int .i64 (0 : Int), .int .i64 (0 : Int), .int .i64 (0 : Int)]) := ⟨by kernel_rfl, by kernel_rfl, rfl, by decide⟩
theorem sl_Ty_amlink_queue : SlTy Tryz.prog Ty_amlink_queue Ty_S_uint8 1 24 (.slice none 0 0) := ⟨by kernel_rfl, by kernel_rfl, rfl, by decide⟩
end Go.Proofs.YtmbppohkadmjgaaGreat
