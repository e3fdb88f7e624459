import Derived.Test.YthceaojjeokclaaGreatBase
import Derived.KernelRfl
namespace Go.Proofs.YthceaojjeokclaaGreat
open Go.Sx Go.RowKit
set_option maxRecDepth 100000

def h_law21_ReceiverMade : H := (.seq .reg (.seq (.seq .reg (.cond (.seq .reg .leaf) .leaf)) (.seq .reg (.seq .reg (.seq (.draw .blk (.one 0 .pur (.one 1 .pur (.one 2 .stable (.one 3 .pur (.one 4 .pre (.one 5 .keep (.one 6 .last (.one 7 .pur (.one 8 .pur (.one 9 .pur (.one 10 .pur (.one 11 .pur .nil))))))))))))) (.cut [(5, .p .slice)] [5, 29, 30, 31, 32, 33] (.seq .reg (.cond .reg .leaf)) (.cut [] [7, 8, 9, 10, 34, 35, 36, 37, 38, 39, 40, 41, 42, 43, 44, 45, 46, 47, 48, 49, 50, 51, 52, 53, 54, 55, 56, 57, 58, 59, 60, 61, 62, 63, 64, 65, 66, 67, 68, 69, 70, 71, 72, 73, 74, 75, 76, 77, 78, 79, 80, 81, 82, 83, 84, 85, 86, 87, 88, 89, 90, 91, 92, 93, 94, 95, 96, 97, 98, 99, 100, 101, 102, 103, 104, 105, 106, 107, 108, 109, 110, 111, 112, 113, 114, 115, 116, 117, 118, 119, 120, 121, 122, 123, 124, 125, 126, 127, 128, 129, 130, 131] (.seq .reg (.cond (.seq .reg (.block (.seq .reg (.cond .reg (.seq .reg (.cond (.draw .blk (.one 0 .pur (.one 1 .stable (.one 2 .pur (.one 3 .keep (.one 4 .pur (.one 5 .pur (.one 6 .pur (.one 7 .last .nil))))))))) (.seq .reg (.cond (.draw .blk (.one 0 .pur (.one 1 .stable (.one 2 .pur (.one 3 .keep (.one 4 .pur (.one 5 .pur (.one 6 .pur (.one 7 .last .nil))))))))) (.seq .reg (.cond (.draw .blk (.one 0 .pur (.one 1 .stable (.one 2 .pur (.one 3 .keep (.one 4 .pur (.one 5 .pur (.one 6 .pur (.one 7 .last .nil))))))))) (.seq .reg (.cond .reg (.seq .reg (.cond .reg (.seq .reg (.cond .reg (.seq .reg (.cond (.seq .reg (.seq .reg (.cond (.seq (.draw .blk (.one 0 .pur (.one 1 .stable (.one 2 .pur (.one 3 .pur (.one 4 .keep (.one 5 .pur (.one 6 .pur .nil)))))))) (.draw .blk (.one 0 .pur (.one 1 .pur (.one 2 .pur (.one 3 .stable (.one 4 .pur (.one 5 .keep (.one 6 .pur (.one 7 .pur (.one 8 .pur (.one 9 .pur (.one 10 .last .nil))))))))))))) .leaf))) (.seq .reg (.seq .reg (.cond (.seq (.draw .blk (.one 0 .pur (.one 1 .stable (.one 2 .pur (.one 3 .pur (.one 4 .keep (.one 5 .pur (.one 6 .pur .nil)))))))) .reg) .leaf))))))))))))))))))))) .leaf)) (.seq (.draw .blk (.one 0 .keep (.one 1 .pur (.one 2 .stable (.one 3 .pur (.one 4 .pur (.one 5 .keep (.one 6 .pur (.one 7 .last (.one 8 .pur (.one 9 .pur .nil))))))))))) .leaf))))))))
def F_law21_ReceiverMade (t_a : OA) (t_l : Nat) (t_c : Nat) (w : World) (R : Value → WP) : Prop :=
 (CP N_made_Light #[(.slice t_a t_l t_c)] w fun ew dy =>
 ∃ fe : Bool, ew = .returned (.bool fe) ∧
 (bsplit (!fe)
 ((CP N_law21_awake #[] dy fun di ey =>
 ∃ ds : Bool, di = .returned (.bool ds) ∧
 R (.bool ds) ey))
 ((CP N_made_Roll #[(.slice t_a t_l t_c)] dy fun dj ez =>
 ∃ b : OA, dj = .returned (.pointer b) ∧
 (CP N_law21_random #[(.pointer b)] ez fun dk e0 =>
 ∃ bw bx bz b0 b1 b2 b3 b4 b5 b6 aa ab : Int, ∃ ac : Bool, ∃ j : OA, ∃ l k : Nat, dk = .returned (.agg #[Iv bw, Iv bx, Iv bz, Iv b0, Iv b1, Iv b2, Iv b3, Iv b4, Iv b5, Iv b6, Iv aa, Iv ab, .bool ac, .slice j l k]) ∧
 (kAlloc e0 #[Iv (0 : Int), Iv (0 : Int), Iv (0 : Int), Iv (0 : Int), Iv (0 : Int), Iv (0 : Int), Iv (0 : Int), Iv (0 : Int), Iv (0 : Int), Iv (0 : Int), Iv (0 : Int), Iv (0 : Int), .bool false, .slice none 0 0] Ty_api_Receiver fun d e1 =>
 (sxStore e1 ⟨d, 0, none⟩ 0 [(Iv bw), (Iv bx), (Iv bz), (Iv b0), (Iv b1), (Iv b2), (Iv b3), (Iv b4), (Iv b5), (Iv b6), (Iv aa), (Iv ab), (.bool ac), (.slice j l k)] fun e2 =>
 (kDrew e2 fun bl =>
 (∃ fd : Nat → Prop,
 (fd d ∧
 (kLd bl ⟨d, 0, none⟩ .i64 fun ff =>
 (∃ ch ci cj ck cl cm cn co cp cq a3 a4 : Int, ∃ a5 : Bool, ∃ m : OA, ∃ o n : Nat, cellsAt bl ⟨d, 0, none⟩ 0 [(Iv ch), (Iv ci), (Iv cj), (Iv ck), (Iv cl), (Iv cm), (Iv cn), (Iv co), (Iv cp), (Iv cq), (Iv a3), (Iv a4), (.bool a5), (.slice m o n)] ∧
 (CP N_law21_piece #[(.pointer b), (.agg #[Iv ch, Iv ci, Iv cj, Iv ck, Iv cl, Iv cm, Iv cn, Iv co, Iv cp, Iv cq, Iv a3, Iv a4, .bool a5, .slice m o n])] bl fun dl ee =>
 ∃ y ad af ah : Int, ∃ q : OA, ∃ s r : Nat, dl = .returned (.agg #[Iv y, Iv ad, Iv af, Iv ah, .slice q s r]) ∧
 (KeepsB fd bl ee ∧ (CP N_ref18_Encode #[(Iv ff), (.agg #[Iv y, Iv ad, Iv af, Iv ah, .slice q s r])] ee fun dm e3 =>
 ∃ al : OA, ∃ ap an : Nat, ∃ ex : Int, dm = .returned (.tuple #[(.slice al ap an), (Iv ex)]) ∧
 (∃ ev : OA → Nat → Nat → WP,
 (∀ (_ : Env) (bm : OA) (bo : Nat) (bn : Nat) (b8 : World), ev bm bo bn b8 →
 (∃ c : WP,
 (∀ (_ : Env)  (cf : World), c cf →
 (kDrew cf fun t =>
 (∃ cs : Nat → Prop,
 (CP N_law21_awake #[] t fun c4 a0 =>
 ∃ bt : Bool, c4 = .returned (.bool bt) ∧
 (KeepsB cs t a0 ∧ (bsplit bt
 ((cs d ∧
 (∃ a2 a7 a9 bb bd bf bg bh bi bj u v : Int, ∃ x : Bool, ∃ e : OA, ∃ g f : Nat, cellsAt t ⟨d, 0, none⟩ 0 [(Iv a2), (Iv a7), (Iv a9), (Iv bb), (Iv bd), (Iv bf), (Iv bg), (Iv bh), (Iv bi), (Iv bj), (Iv u), (Iv v), (.bool x), (.slice e g f)] ∧
 (CP N_made_Dice_Next #[(.pointer b), (Iv (40 : Int))] a0 fun c5 cg =>
 ∃ bu : Int, c5 = .returned (Iv bu) ∧
 (KeepsB cs t cg ∧ (kW .i64 (bu - (1 : Int)) fun eu =>
 (CP N_law21_agree #[(.agg #[Iv a2, Iv a7, Iv a9, Iv bb, Iv bd, Iv bf, Iv bg, Iv bh, Iv bi, Iv bj, Iv u, Iv v, .bool x, .slice e g f]), (.slice bm bo bn), (Iv eu)] cg fun c6 ed =>
 ∃ bv : Bool, c6 = .returned (.bool bv) ∧
 R (.bool bv) ed)))))))
 (R (.bool false) a0))))))) ∧
 (CP N_made_Dice_One #[(.pointer b), (Iv (3 : Int))] b8 fun dq b9 =>
 ∃ du : Bool, dq = .returned (.bool du) ∧
 (bsplit du
 ((CP N_made_Dice_Next #[(.pointer b), (Iv (9 : Int))] b9 fun dr a =>
 ∃ h : Int, dr = .returned (Iv h) ∧
 (kLet (decide (h = (0 : Int))) fun e4 =>
 (bsplit e4
 ((∃ a1 a6 a8 ba bc be : Int, cellsAt a ⟨d, 0, none⟩ 0 [(Iv a1), (Iv a6), (Iv a8), (Iv ba), (Iv bc), (Iv be)] ∧
 (CP N_made_Dice_OddLink #[(.pointer b), (.agg #[Iv a1, Iv a6, Iv a8, Iv ba, Iv bc, Iv be])] a fun cu d0 =>
 ∃ z ae ag ai aj ak : Int, cu = .returned (.agg #[Iv z, Iv ae, Iv ag, Iv ai, Iv aj, Iv ak]) ∧
 (sxStore d0 ⟨d, 0, none⟩ 0 [(Iv z), (Iv ae), (Iv ag), (Iv ai), (Iv aj), (Iv ak)] fun d1 =>
 c d1))))
 ((kLet (decide (h = (1 : Int))) fun e5 =>
 (bsplit e5
 ((kDrew a fun ar =>
 (∃ db : Nat → Prop,
 (db d ∧
 (kLd ar ⟨d, 6, none⟩ .i64 fun e6 =>
 (CP N_made_Dice_Next #[(.pointer b), (Iv (3 : Int))] ar fun cv ca =>
 ∃ dv : Int, cv = .returned (Iv dv) ∧
 (KeepsB db ar ca ∧ (kW .i64 (dv - (1 : Int)) fun e7 =>
 (kW .i64 (e6 + e7) fun e8 =>
 (kSet ca ⟨d, 6, none⟩ (Iv e8) fun d2 =>
 c d2))))))))))
 ((kLet (decide (h = (2 : Int))) fun e9 =>
 (bsplit e9
 ((kDrew a fun au =>
 (∃ dc : Nat → Prop,
 (dc d ∧
 (kLd au ⟨d, 7, none⟩ .i64 fun fa =>
 (CP N_made_Dice_Next #[(.pointer b), (Iv (3 : Int))] au fun cw cb =>
 ∃ dw : Int, cw = .returned (Iv dw) ∧
 (KeepsB dc au cb ∧ (kW .i64 (dw - (1 : Int)) fun fb =>
 (kW .i64 (fa + fb) fun fc =>
 (kSet cb ⟨d, 7, none⟩ (Iv fc) fun d3 =>
 c d3))))))))))
 ((kLet (decide (h = (3 : Int))) fun ef =>
 (bsplit ef
 ((kDrew a fun av =>
 (∃ dd : Nat → Prop,
 (dd d ∧
 (kLd av ⟨d, 8, none⟩ .i64 fun eg =>
 (CP N_made_Dice_Next #[(.pointer b), (Iv (3 : Int))] av fun cx cc =>
 ∃ dx : Int, cx = .returned (Iv dx) ∧
 (KeepsB dd av cc ∧ (kW .i64 (dx - (1 : Int)) fun eh =>
 (kW .i64 (eg + eh) fun ei =>
 (kSet cc ⟨d, 8, none⟩ (Iv ei) fun d4 =>
 c d4))))))))))
 ((kLet (decide (h = (4 : Int))) fun ej =>
 (bsplit ej
 ((CP N_made_Dice_Next #[(.pointer b), (Iv (34 : Int))] a fun cy d5 =>
 ∃ bp : Int, cy = .returned (Iv bp) ∧
 (kW .i64 (bp - (2 : Int)) fun ek =>
 (kSet d5 ⟨d, 9, none⟩ (Iv ek) fun d6 =>
 c d6))))
 ((kLet (decide (h = (5 : Int))) fun el =>
 (bsplit el
 ((CP N_made_Dice_Next #[(.pointer b), (Iv (8 : Int))] a fun cz d7 =>
 ∃ bq : Int, cz = .returned (Iv bq) ∧
 (kW .i64 (bq - (1 : Int)) fun em =>
 (kSet d7 ⟨d, 10, none⟩ (Iv em) fun d8 =>
 c d8))))
 ((kLet (decide (h = (6 : Int))) fun en =>
 (bsplit en
 ((CP N_made_Dice_Next #[(.pointer b), (Iv (6 : Int))] a fun c0 d9 =>
 ∃ br : Int, c0 = .returned (Iv br) ∧
 (kW .i64 (br - (1 : Int)) fun eo =>
 (kSet d9 ⟨d, 11, none⟩ (Iv eo) fun ea =>
 c ea))))
 ((kLet (decide (h = (7 : Int))) fun ep =>
 (bsplit ep
 ((kLdS a ⟨d, 13, none⟩ fun _ cr _ =>
 (bsplit (decide ((cr : Int) > (0 : Int)))
 ((kDrew a fun aw =>
 (∃ de : Nat → Prop,
 (de d ∧
 (kLdS aw ⟨d, 13, none⟩ fun c7 c9 _ =>
 (CP N_made_Dice_Next #[(.pointer b), (Iv (cr : Int))] aw fun c1 cd =>
 ∃ i : Int, c1 = .returned (Iv i) ∧
 (KeepsB de aw cd ∧ (kIx c7 c9 i fun ct =>
 (kDrew cd fun ax =>
 (∃ df : Nat → Prop,
 (df ((ct.add (i.toNat * 5)).add 2).block ∧
 (kLd ax ((ct.add (i.toNat * 5)).add 2) .i64 fun eq =>
 (CP N_made_Dice_Next #[(.pointer b), (Iv (3 : Int))] ax fun c2 ce =>
 ∃ bs : Int, c2 = .returned (Iv bs) ∧
 (KeepsB df ax ce ∧ (kW .i64 (bs - (1 : Int)) fun er =>
 (kW .i64 (eq + er) fun es =>
 (kSet ce ((ct.add (i.toNat * 5)).add 2) (Iv es) fun eb =>
 c eb)))))))))))))))))
 (c a))))
 ((kLdS a ⟨d, 13, none⟩ fun _ bk _ =>
 (bsplit (decide ((bk : Int) > (0 : Int)))
 ((kDrew a fun ay =>
 (∃ dg : Nat → Prop,
 (dg d ∧
 (kLdS ay ⟨d, 13, none⟩ fun c8 da _ =>
 (CP N_made_Dice_Next #[(.pointer b), (Iv (bk : Int))] ay fun c3 az =>
 ∃ p : Int, c3 = .returned (Iv p) ∧
 (KeepsB dg ay az ∧ (kIx c8 da p fun dh =>
 (kLdB az ((dh.add (p.toNat * 5)).add 1) fun et =>
 (kSet az ((dh.add (p.toNat * 5)).add 1) (.bool (!et)) fun ec =>
 c ec))))))))))
 (c a)))))))))))))))))))))))))))))
 (c b9))))) ∧
 (CP N_made_Dice_One #[(.pointer b), (Iv (5 : Int))] e3 fun dn b7 =>
 ∃ dt : Bool, dn = .returned (.bool dt) ∧
 (bsplit dt
 ((CP N_made_Dice_Spoil #[(.pointer b), (.slice al ap an)] b7 fun dp dz =>
 ∃ am : OA, ∃ aq ao : Nat, dp = .returned (.slice am aq ao) ∧
 ev am aq ao dz))
 (ev al ap an b7)))))))))))))))))))
theorem F_law21_ReceiverMade_ok {R : EP} (t_a : OA) (t_l : Nat) (t_c : Nat) (w : World) (h : F_law21_ReceiverMade t_a t_l t_c w fun v w' => R (.returned v) w') : CP N_law21_ReceiverMade #[(.slice t_a t_l t_c)] w R :=
 calls_of (k := TTk) (h := h_law21_ReceiverMade) (f := 4) follows_ok Tryz.func4 (Eq.mpr (by kernel_rfl) h)

end Go.Proofs.YthceaojjeokclaaGreat
