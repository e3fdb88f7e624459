import Derived.Test.YtmbppohkadmjgaaGreatBase
import Derived.KernelRfl
namespace Go.Proofs.YtmbppohkadmjgaaGreat
open Go.Sx Go.RowKit
set_option maxRecDepth 100000

def h_law22_AmlinkOnce : H := (sr (.seq sc (sr (sr (sr (.cut [] ([2] ++ rg 36 6) sc (sr (.seq (sr (.block (.loop [(10, .p (.int .i64))] ([2, 10, 11] ++ rg 45 42) (.seq (sr (.cond .leaf .leaf)) (.seq (.block (.seq sc (sr (.seq (.seq (.draw .no (uo 0 8 (po 8 1 (uo 9 5 (po 14 1 (uo 15 3 (po 18 1 (lo 19 1 (uo 20 2 .nil))))))))) (.cond sl .leaf)) .reg)))) .reg))))) (sr (.seq (sr (.block (.loop [(13, .p (.int .i64))] ([2, 13, 14] ++ rg 90 29) (.seq (sr (.cond .leaf .leaf)) (.seq (.block (.seq sc (sr (sr (.cond .reg .leaf))))) .reg))))) (sr (.seq (sr (.block (.loop [(16, .p (.int .i64))] ([2, 16] ++ rg 125 30) (.seq (sr (.cond .leaf .leaf)) (.seq (.block sc) .reg))))) sl))))))))))))
def F_law22_AmlinkOnce (t_a : OA) (t_l : Nat) (t_c : Nat) (w : World) (R : Value -> WP) : Prop :=
 (CP N_made_Light #[(.slice t_a t_l t_c)] w fun dc cp =>
 ∃ dr : Bool, dc = .returned (.bool dr) /\
 (bsplit (!dr)
 ((CP N_law22_awake #[] cp fun cc dd =>
 ∃ cl : Bool, cc = .returned (.bool cl) /\
 R (.bool cl) dd))
 ((CP N_made_Roll #[(.slice t_a t_l t_c)] cp fun cd de =>
 ∃ aw : OA, cd = .returned (.pointer aw) /\
 (CP N_law22_numbered #[(.pointer aw), (Iv (25 : Int))] de fun ce df =>
 ∃ ao : OA, ∃ a a9 : Nat, ce = .returned (.slice ao a a9) /\
 (CP N_made_Dice_Link #[(.pointer aw)] df fun cf dg =>
 ∃ az a0 a1 a2 a3 a4 : Int, cf = .returned (.agg #[Iv az, Iv a0, Iv a1, Iv a2, Iv a3, Iv a4]) /\
 (CP N_made_Dice_LinkSteps #[(.pointer aw), (Iv (300 : Int))] dg fun cg dh =>
 ∃ ap : OA, ∃ ar aq : Nat, cg = .returned (.slice ap ar aq) /\
 (CP N_amlink_Run #[(.agg #[Iv az, Iv a0, Iv a1, Iv a2, Iv a3, Iv a4]), (.slice ao a a9), (.slice ap ar aq)] dh fun ch di =>
 ∃ i : OA, ∃ e bl : Nat, ∃ x aa ad af ah aj a5 a6 : Int, ∃ s : OA, ∃ u t : Nat, ∃ a8 z p : Int, ∃ ab : Bool, ∃ y ac ae ag ai ak al am a7 an o q : Int, ∃ r : Bool, ∃ l : OA, ∃ n m : Nat, ∃ cm : Int, ch = .returned (.tuple #[(.slice i e bl), (.agg #[Iv x, Iv aa, Iv ad, Iv af, Iv ah, Iv aj, Iv a5, Iv a6, .slice s u t, Iv a8, Iv z, Iv p, .bool ab]), (.agg #[Iv y, Iv ac, Iv ae, Iv ag, Iv ai, Iv ak, Iv al, Iv am, Iv a7, Iv an, Iv o, Iv q, .bool r, .slice l n m]), (Iv cm)]) /\
 (kAlloc di #[Iv (0 : Int), Iv (0 : Int), Iv (0 : Int), Iv (0 : Int), Iv (0 : Int), Iv (0 : Int), Iv (0 : Int), Iv (0 : Int), .slice none 0 0, Iv (0 : Int), Iv (0 : Int), Iv (0 : Int), .bool false] Ty_api_Sender fun bg dj =>
 (kAlloc dj #[Iv (0 : Int), Iv (0 : Int), Iv (0 : Int), Iv (0 : Int), Iv (0 : Int), Iv (0 : Int), Iv (0 : Int), Iv (0 : Int), Iv (0 : Int), Iv (0 : Int), Iv (0 : Int), Iv (0 : Int), .bool false, .slice none 0 0] Ty_api_Receiver fun c6 dk =>
 (sxStore dk ⟨bg, 0, none⟩ 0 [(Iv x), (Iv aa), (Iv ad), (Iv af), (Iv ah), (Iv aj), (Iv a5), (Iv a6), (.slice s u t), (Iv a8), (Iv z), (Iv p), (.bool ab)] fun cq =>
 (sxStore cq ⟨c6, 0, none⟩ 0 [(Iv y), (Iv ac), (Iv ae), (Iv ag), (Iv ai), (Iv ak), (Iv al), (Iv am), (Iv a7), (Iv an), (Iv o), (Iv q), (.bool r), (.slice l n m)] fun cr =>
 (∃ dq : WP,
 (∀ (_ : Env)  (ba : World), dq ba ->
 (kMake ba 1 (a : Int) (a : Int) #[(.bool false)] 1 Ty_bool fun bh cs =>
 (∃ b5 : Int -> Nat × (WP), (b5 (0 : Int)).2 cs /\
 (∀ (_ : Env) (av : Int) (g : World), (b5 av).2 g ->
 (bsplit (decide (av < (e : Int)))
 ((kIx i e av fun c7 =>
 (kLdS g (c7.add (av.toNat * 1)) fun _ c5 _ =>
 (bsplit (decide ((c5 : Int) < (2 : Int)))
 (R (.bool false) g)
 ((kIx i e av fun c8 =>
 (kLdS g (c8.add (av.toNat * 1)) fun bm bw bs =>
 (CP N_ref01_Get #[(.slice bm bw bs), (Iv (0 : Int)), (Iv (2 : Int))] g fun cj ct =>
 ∃ k : Int, cj = .returned (Iv k) /\
 (kDrew ct fun h =>
 (bsplit (decide (k >= (a : Int)))
 (R (.bool false) h)
 ((kIx (some ⟨bh, 0, none⟩) ((a : Int).toNat) k fun c9 =>
 (kLdB h (c9.add (k.toNat * 1)) fun dl =>
 (bsplit dl
 (R (.bool false) h)
 ((kIx i e av fun da =>
 (kLdS h (da.add (av.toNat * 1)) fun bn bx bt =>
 (kIx ao a k fun db =>
 (kLdS h (db.add (k.toNat * 1)) fun bo bz bu =>
 (CP N_ref01_Same #[(.slice bn bx bt), (.slice bo bz bu)] h fun ck bb =>
 ∃ co : Bool, ck = .returned (.bool co) /\
 (bsplit (!co)
 (R (.bool false) bb)
 ((kIx (some ⟨bh, 0, none⟩) ((a : Int).toNat) k fun b6 =>
 (kSet bb (b6.add (k.toNat * 1)) (.bool true) fun cu =>
 (kW .i64 (av + (1 : Int)) fun c1 =>
 ((b5 c1).2 cu /\ (b5 c1).1 < (b5 av).1))))))))))))))))))))))))))
 ((kMake g 1 (a : Int) (a : Int) #[(.bool false)] 1 Ty_bool fun ay cv =>
 (∃ j : Int -> Nat × (WP), (j (0 : Int)).2 cv /\
 (∀ (_ : Env) (f : Int) (b : World), (j f).2 b ->
 (kLdS b ⟨bg, 8, none⟩ fun _ b0 _ =>
 (bsplit (decide (f < (b0 : Int)))
 ((kLdS b ⟨bg, 8, none⟩ fun bp b1 _ =>
 (kIx bp b1 f fun b7 =>
 (kLdS b ((b7.add (f.toNat * 5)).add 1) fun _ b2 _ =>
 (bsplit (decide ((b2 : Int) < (2 : Int)))
 (R (.bool false) b)
 ((kLdS b ⟨bg, 8, none⟩ fun bq b3 _ =>
 (kIx bq b3 f fun b8 =>
 (kLdS b ((b8.add (f.toNat * 5)).add 1) fun br b4 bv =>
 (CP N_ref01_Get #[(.slice br b4 bv), (Iv (0 : Int)), (Iv (2 : Int))] b fun bi bc =>
 ∃ ax : Int, bi = .returned (Iv ax) /\
 (bsplit (decide (ax < (a : Int)))
 ((kIx (some ⟨ay, 0, none⟩) ((a : Int).toNat) ax fun b9 =>
 (kSet bc (b9.add (ax.toNat * 1)) (.bool true) fun cw =>
 (kW .i64 (f + (1 : Int)) fun c2 =>
 ((j c2).2 cw /\ (j c2).1 < (j f).1)))))
 ((kW .i64 (f + (1 : Int)) fun c3 =>
 ((j c3).2 bc /\ (j c3).1 < (j f).1))))))))))))))
 ((kLd b ⟨bg, 0, none⟩ .i64 fun dm =>
 (kLd b ⟨bg, 7, none⟩ .i64 fun dn =>
 (CP N_ref20_Place #[(Iv dm), (Iv (0 : Int)), (Iv dn)] b fun bj cx =>
 ∃ bk : Int, bj = .returned (Iv bk) /\
 (∃ d : Int -> Nat × (WP), (d (0 : Int)).2 cx /\
 (∀ (_ : Env) (v : Int) (c : World), (d v).2 c ->
 (bsplit (decide (v < (if (a : Int) < bk then (a : Int) else bk)))
 ((kLd c ⟨bg, 0, none⟩ .i64 fun dp =>
 (kW .u64 (dp) fun c4 =>
 (0 <= c4 /\ (kW .i64 ((1 : Int) * 2 ^ (min c4.toNat (IntKind.bits .i64))) fun cy =>
 (bsplit (decide ((a : Int) < cy))
 ((kIx (some ⟨ay, 0, none⟩) ((a : Int).toNat) v fun ca =>
 (kLdB c (ca.add (v.toNat * 1)) fun cz =>
 (bsplit (!cz)
 ((kIx (some ⟨bh, 0, none⟩) ((a : Int).toNat) v fun cb =>
 (kLdB c (cb.add (v.toNat * 1)) fun c0 =>
 (bsplit (!c0)
 (R (.bool false) c)
 ((kW .i64 (v + (1 : Int)) fun bd =>
 ((d bd).2 c /\ (d bd).1 < (d v).1)))))))
 ((kW .i64 (v + (1 : Int)) fun be =>
 ((d be).2 c /\ (d be).1 < (d v).1)))))))
 ((kW .i64 (v + (1 : Int)) fun bf =>
 ((d bf).2 c /\ (d bf).1 < (d v).1)))))))))
 (R (.bool true) c))))))))))))))))))) /\
 (CP N_law22_awake #[] cr fun ci au =>
 ∃ cn : Bool, ci = .returned (.bool cn) /\
 (bsplit (!cn)
 (R (.bool false) au)
 ((bsplit (!decide (cm = (0 : Int)))
 (R (.bool false) au)
 (dq au))))))))))))))))))
theorem F_law22_AmlinkOnce_ok {R : EP} (t_a : OA) (t_l : Nat) (t_c : Nat) (w : World) (h : F_law22_AmlinkOnce t_a t_l t_c w fun v w' => R (.returned v) w') : CP N_law22_AmlinkOnce #[(.slice t_a t_l t_c)] w R :=
 calls_of (k := TTk) (h := h_law22_AmlinkOnce) (f := 7) follows_ok Tryz.func7 (Eq.mpr (by kernel_rfl) h)

end Go.Proofs.YtmbppohkadmjgaaGreat
