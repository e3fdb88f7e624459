import Derived.Test.YtmbppohkadmjgaaGreatBase
import Derived.Test.YtmbppohkadmjgaaGreatHp
import Derived.KernelRfl
namespace Go.Proofs.YtmbppohkadmjgaaGreat
open Go.Sx
theorem Jf:SlTy Tryz.prog Da As 1 24 (.slice none 0 0):=⟨by kernel_rfl,by kernel_rfl,rfl,by decide⟩
theorem sl_Ty_S_uint8:SlTy Tryz.prog As Bb 1 1 (.int .u8 (0:Int)):=⟨by kernel_rfl,by kernel_rfl,rfl,by decide⟩
theorem Gb:SlTy Tryz.prog Cm Ad 5 72 (.agg #[.int .i64 (0:Int),.slice none 0 0,.int .i64 (0:Int),.int .i64 (0:Int),.slice none 0 0]):=⟨by kernel_rfl,by kernel_rfl,rfl,by decide⟩
theorem sl_Ty_S_api_Partial:SlTy Tryz.prog Bh Ac 5 72 (.agg #[.int .i64 (0:Int),.bool false,.int .i64 (0:Int),.slice none 0 0,.slice none 0 0]):=⟨by kernel_rfl,by kernel_rfl,rfl,by decide⟩
theorem Bn:SlTy Tryz.prog Ar Af 3 24 (.agg #[.int .i64 (0:Int),.int .i64 (0:Int),.int .i64 (0:Int)]):=⟨by kernel_rfl,by kernel_rfl,rfl,by decide⟩
theorem Afb:SlTy Tryz.prog Mv As 1 24 (.slice none 0 0):=⟨by kernel_rfl,by kernel_rfl,rfl,by decide⟩
end Go.Proofs.YtmbppohkadmjgaaGreat
