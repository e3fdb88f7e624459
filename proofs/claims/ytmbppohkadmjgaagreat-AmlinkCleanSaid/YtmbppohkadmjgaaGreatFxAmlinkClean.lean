import Derived.Test.YtmbppohkadmjgaaGreatBase
import Derived.KernelRfl
namespace Go.Proofs.YtmbppohkadmjgaaGreat
open Go.Sx Go.RowKit
set_option maxRecDepth 100000

def h_law22_AmlinkClean : H := (.seq .reg (.seq (.seq .reg (.cond (.seq .reg .leaf) .leaf)) (.seq .reg (.seq .reg (.seq .reg (.seq .reg (.seq .reg (.seq .reg .leaf))))))))
def F_law22_AmlinkClean (t_a : OA) (t_l : Nat) (t_c : Nat) (w : World) (R : Value → WP) : Prop :=
 (CP N_made_Light #[(.slice t_a t_l t_c)] w fun al ah =>
 ∃ av : Bool, al = .returned (.bool av) ∧
 (bsplit (!av)
 ((CP N_law22_awake #[] ah fun u am =>
 ∃ ac : Bool, u = .returned (.bool ac) ∧
 R (.bool ac) am))
 ((CP N_made_Roll #[(.slice t_a t_l t_c)] ah fun v an =>
 ∃ t : OA, v = .returned (.pointer t) ∧
 (CP N_law22_numbered #[(.pointer t), (Iv (60 : Int))] an fun x ao =>
 ∃ b : OA, ∃ f d : Nat, x = .returned (.slice b f d) ∧
 (CP N_made_Dice_Link #[(.pointer t)] ao fun y ap =>
 ∃ h i j k l m : Int, y = .returned (.agg #[Iv h, Iv i, Iv j, Iv k, Iv l, Iv m]) ∧
 (kAlloc ap #[Iv (0 : Int), Iv (0 : Int), Iv (0 : Int), Iv (0 : Int), Iv (0 : Int), Iv (0 : Int)] Ty_api_Link fun ak aq =>
 (sxStore aq ⟨ak, 0, none⟩ 0 [(Iv h), (Iv i), (Iv j), (Iv k), (Iv l), (Iv m)] fun ar =>
 (kSet ar ⟨ak, 4, none⟩ (Iv (0 : Int)) fun aj =>
 (∃ n o p q r s : Int, cellsAt aj ⟨ak, 0, none⟩ 0 [(Iv n), (Iv o), (Iv p), (Iv q), (Iv r), (Iv s)] ∧
 (CP N_amlink_Finish #[(.agg #[Iv n, Iv o, Iv p, Iv q, Iv r, Iv s]), (.slice b f d), (.slice none 0 0), (Iv (6 : Int))] aj fun z au =>
 ∃ c : OA, ∃ g e : Nat, ∃ ad : Bool, ∃ ae : Int, z = .returned (.tuple #[(.slice c g e), (.bool ad), (Iv ae)]) ∧
 (CP N_law22_awake #[] au fun aa a =>
 ∃ af : Bool, aa = .returned (.bool af) ∧
 (bsplit af
 ((bsplit (decide (ae = (0 : Int)))
 ((bsplit ad
 ((CP N_ref01_SameAll #[(.slice c g e), (.slice b f d)] a fun ab ai =>
 ∃ ag : Bool, ab = .returned (.bool ag) ∧
 R (.bool ag) ai))
 (R (.bool false) a)))
 (R (.bool false) a)))
 (R (.bool false) a))))))))))))))
theorem F_law22_AmlinkClean_ok {R : EP} (t_a : OA) (t_l : Nat) (t_c : Nat) (w : World) (h : F_law22_AmlinkClean t_a t_l t_c w fun v w' => R (.returned v) w') : CP N_law22_AmlinkClean #[(.slice t_a t_l t_c)] w R :=
 calls_of (k := TTk) (h := h_law22_AmlinkClean) (f := 4) follows_ok Tryz.func4 (Eq.mpr (by kernel_rfl) h)

end Go.Proofs.YtmbppohkadmjgaaGreat
