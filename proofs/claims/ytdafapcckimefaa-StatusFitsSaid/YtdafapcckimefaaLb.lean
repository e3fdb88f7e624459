import Derived.Test.YtdafapcckimefaaP18
import Derived.Test.YtdafapcckimefaaForms
import Derived.Test.YtdafapcckimefaaTys
import Derived.Test.YtdafapcckimefaaSt
/- Bits of numbers: which are valid. -/
namespace Go.Proofs.Ytdafapcckimefaa
open Go.Sx Go.RowKit
theorem counter_Bits_ct {bits : Int} {w : World} :
    Calls Try.prog N_counter_Bits #[(.int .i64 bits)] w fun e w' => e = .returned (.bool (decide (bitsOk bits))) ∧ Below w.heap.size w w' := by
  apply F_counter_Bits_ok
  unfold F_counter_Bits
  have H := St.nil w
  refine bsplit_dec (fun c => ?_) (fun c => ?_) --  (decide (bits ≥ (5 : Int)))
  · refine kLet_in ?_
    exact ⟨retD (by unfold bitsOk; omega), H.below⟩
  · exact ⟨retF (by unfold bitsOk; omega), H.below⟩
theorem ref15_Bits_ct {n : Int} {w : World} :
    Calls Try.prog N_ref15_Bits #[(.int .i64 n)] w fun e w' => e = .returned (.bool (decide (bitsOk n))) ∧ Below w.heap.size w w' := by
  apply F_ref15_Bits_ok
  unfold F_ref15_Bits
  have H := St.nil w
  refine bsplit_dec (fun c => ?_) (fun c => ?_) --  (decide (n ≥ (5 : Int)))
  · refine kLet_in ?_
    exact ⟨retD (by unfold bitsOk; omega), H.below⟩
  · exact ⟨retF (by unfold bitsOk; omega), H.below⟩
end Go.Proofs.Ytdafapcckimefaa
