import Derived.Test.YtmbppohkadmjgaaGreatBase
import Derived.Test.YtmbppohkadmjgaaGreatHp
import Derived.KernelRfl
namespace Go.Proofs.YtmbppohkadmjgaaGreat
open Go.Sx
theorem Gy:SlTy Tryz.prog Ct As 1 24 (.slice none 0 0):=⟨by kernel_rfl,by kernel_rfl,rfl,by decide⟩
theorem Ake:SlTy Tryz.prog Qz Gd 2 16 (.agg #[.int .i64 (0:Int),.int .i64 (0:Int)]):=⟨by kernel_rfl,by kernel_rfl,rfl,by decide⟩
theorem sl_Ty_S_uint8:SlTy Tryz.prog As Az 1 1 (.int .u8 (0:Int)):=⟨by kernel_rfl,by kernel_rfl,rfl,by decide⟩
theorem Gh:SlTy Tryz.prog Co Ae 5 72 (.agg #[.int .i64 (0:Int),.slice none 0 0,.int .i64 (0:Int),.int .i64 (0:Int),.slice none 0 0]):=⟨by kernel_rfl,by kernel_rfl,rfl,by decide⟩
theorem sl_Ty_S_api_Partial:SlTy Tryz.prog Bg Ac 5 72 (.agg #[.int .i64 (0:Int),.bool false,.int .i64 (0:Int),.slice none 0 0,.slice none 0 0]):=⟨by kernel_rfl,by kernel_rfl,rfl,by decide⟩
theorem Bo:SlTy Tryz.prog Ar Af 3 24 (.agg #[.int .i64 (0:Int),.int .i64 (0:Int),.int .i64 (0:Int)]):=⟨by kernel_rfl,by kernel_rfl,rfl,by decide⟩
theorem Agm:SlTy Tryz.prog Nh As 1 24 (.slice none 0 0):=⟨by kernel_rfl,by kernel_rfl,rfl,by decide⟩
end Go.Proofs.YtmbppohkadmjgaaGreat
