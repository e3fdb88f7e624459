import Derived.Test.YtmbppohkadmjgaaGreatBase
import Derived.KernelRfl
namespace Go.Proofs.YtmbppohkadmjgaaGreat
open Go.Sx Go.RowKit
set_option maxRecDepth 100000

def h_sender_side_asked : H := (sr sl)
def F_sender_side_asked (s_b s_o : Nat) (w : World) (R : Value -> WP) : Prop :=
 (kAlloc w #[(.pointer (some ⟨s_b, s_o, none⟩))] Ty_P_sender_side fun h a =>
 (∃ j : OA, a.cell? ⟨h, 0, none⟩ = some (.pointer j) /\
 (kNil j fun g =>
 (kLdS a (g.add 8) fun b d c =>
 (CP N_slices_ContainsFunc_Sapi_Unit_api_Unit #[(.slice b d c), (.func (.func N_sender_side_asked_1) #[] #[(.pointer (some ⟨h, 0, none⟩))])] a fun e f =>
 ∃ i : Bool, e = .returned (.bool i) /\
 R (.bool i) f)))))
theorem F_sender_side_asked_ok {R : EP} (s_b s_o : Nat) (w : World) (h : F_sender_side_asked s_b s_o w fun v w' => R (.returned v) w') : CP N_sender_side_asked #[(.pointer (some ⟨s_b, s_o, none⟩))] w R :=
 calls_of (k := TTk) (h := h_sender_side_asked) (f := 140) follows_ok Tryz.func140 (Eq.mpr (by kernel_rfl) h)

def h_status_part : H := (sr sl)
def F_status_part (r_0 r_1 r_2 : Int) (w : World) (R : Value -> WP) : Prop :=
 (kAlloc w #[(Iv r_0), (Iv r_1), (Iv r_2)] Ty_api_Range fun b a =>
 (kLd a ⟨b, 1, none⟩ .i64 fun g =>
 (bsplit (decide (g >= (0 : Int)))
 ((kLd a ⟨b, 1, none⟩ .i64 fun c =>
 (kLd a ⟨b, 2, none⟩ .i64 fun d =>
 (bsplit (decide (c < d))
 ((kLd a ⟨b, 2, none⟩ .i64 fun e =>
 (kLet (decide (e <= (65535 : Int))) fun f =>
 R (.bool f) a)))
 (R (.bool false) a)))))
 (R (.bool false) a))))
theorem F_status_part_ok {R : EP} (r_0 r_1 r_2 : Int) (w : World) (h : F_status_part r_0 r_1 r_2 w fun v w' => R (.returned v) w') : CP N_status_part #[(.agg #[Iv r_0, Iv r_1, Iv r_2])] w R :=
 calls_of (k := TTk) (h := h_status_part) (f := 141) follows_ok Tryz.func141 (Eq.mpr (by kernel_rfl) h)

def h_slices_Clone_Sapi_Unit_api_Unit : H := (sr (.seq sc sl))
def F_slices_Clone_Sapi_Unit_api_Unit (s_a : OA) (s_l s_c : Nat) (w : World) (R : Value -> WP) : Prop :=
 (bsplit s_a.isNone
 (R (.slice none 0 0) w)
 ((kAlloc w #[] Ty_api_Unit fun f d =>
 (AppP Tryz.prog #[Ty_S_api_Unit, Ty_S_api_Unit] Ty_S_api_Unit #[(.slice (some ⟨f, 0, none⟩) 0 0), (.slice s_a s_l s_c)] d fun a c b e =>
 R (.slice a c b) e))))
theorem F_slices_Clone_Sapi_Unit_api_Unit_ok {R : EP} (s_a : OA) (s_l s_c : Nat) (w : World) (h : F_slices_Clone_Sapi_Unit_api_Unit s_a s_l s_c w fun v w' => R (.returned v) w') : CP N_slices_Clone_Sapi_Unit_api_Unit #[(.slice s_a s_l s_c)] w R :=
 calls_of (k := TTk) (h := h_slices_Clone_Sapi_Unit_api_Unit) (f := 142) follows_ok Tryz.func142 (Eq.mpr (by kernel_rfl) h)

def h_sender_side_left : H := (sr (.seq (sr sc) sl))
def F_sender_side_left (s_b s_o : Nat) (w : World) (R : Value -> WP) : Prop :=
 (kLdS w ⟨s_b, s_o + 8, none⟩ fun g i h =>
 (CP N_slices_IndexFunc_Sapi_Unit_api_Unit #[(.slice g i h), (.func (.func N_sender_side_left_1) #[] #[])] w fun j a =>
 ∃ k : Int, j = .returned (Iv k) /\
 (bsplit (decide (k >= (0 : Int)))
 (R (Iv k) a)
 ((kLdS a ⟨s_b, s_o + 8, none⟩ fun b d c =>
 (CP N_slices_IndexFunc_Sapi_Unit_api_Unit #[(.slice b d c), (.func (.func N_sender_side_left_2) #[] #[])] a fun e l =>
 ∃ f : Int, e = .returned (Iv f) /\
 R (Iv f) l))))))
theorem F_sender_side_left_ok {R : EP} (s_b s_o : Nat) (w : World) (h : F_sender_side_left s_b s_o w fun v w' => R (.returned v) w') : CP N_sender_side_left #[(.pointer (some ⟨s_b, s_o, none⟩))] w R :=
 calls_of (k := TTk) (h := h_sender_side_left) (f := 143) follows_ok Tryz.func143 (Eq.mpr (by kernel_rfl) h)

def h_sender_part : H := (sr (.seq sc sl))
def F_sender_part (u_0 : Int) (u_1_a : OA) (u_1_l u_1_c : Nat) (u_2 u_3 : Int) (u_4_a : OA) (u_4_l u_4_c : Nat) (w : World) (R : Value -> WP) : Prop :=
 (kAlloc w #[(Iv u_0), (.slice u_1_a u_1_l u_1_c), (Iv u_2), (Iv u_3), (.slice u_4_a u_4_l u_4_c)] Ty_api_Unit fun o t =>
 (kAlloc t #[Iv (0 : Int), Iv (0 : Int), Iv (0 : Int)] Ty_api_Range fun e a =>
 (kLdS a ⟨o, 4, none⟩ fun _ r _ =>
 (bsplit (decide ((r : Int) > (0 : Int)))
 ((kLdS a ⟨o, 4, none⟩ fun l m _ =>
 (kIx l m (0 : Int) fun s =>
 (∃ i j k : Int, cellsAt a (s.add ((0 : Int).toNat * 3)) 0 [(Iv i), (Iv j), (Iv k)] /\
 (sxStore a ⟨e, 0, none⟩ 0 [(Iv i), (Iv j), (Iv k)] fun p =>
 (∃ f g h : Int, cellsAt p ⟨e, 0, none⟩ 0 [(Iv f), (Iv g), (Iv h)] /\
 R (.agg #[Iv f, Iv g, Iv h]) p))))))
 ((kLd a ⟨o, 0, none⟩ .i64 fun v =>
 (kLd a ⟨o, 2, none⟩ .i64 fun u =>
 (kLdS a ⟨o, 1, none⟩ fun _ n _ =>
 (sxStore a ⟨e, 0, none⟩ 0 [(Iv v), (Iv u), (Iv (n : Int))] fun q =>
 (∃ b c d : Int, cellsAt q ⟨e, 0, none⟩ 0 [(Iv b), (Iv c), (Iv d)] /\
 R (.agg #[Iv b, Iv c, Iv d]) q))))))))))
theorem F_sender_part_ok {R : EP} (u_0 : Int) (u_1_a : OA) (u_1_l u_1_c : Nat) (u_2 u_3 : Int) (u_4_a : OA) (u_4_l u_4_c : Nat) (w : World) (h : F_sender_part u_0 u_1_a u_1_l u_1_c u_2 u_3 u_4_a u_4_l u_4_c w fun v w' => R (.returned v) w') : CP N_sender_part #[(.agg #[Iv u_0, .slice u_1_a u_1_l u_1_c, Iv u_2, Iv u_3, .slice u_4_a u_4_l u_4_c])] w R :=
 calls_of (k := TTk) (h := h_sender_part) (f := 144) follows_ok Tryz.func144 (Eq.mpr (by kernel_rfl) h)

def h_segment_Part : H := (sr (.seq (.block (.cut [(5, .p .bool)] (rg 5 5) .reg (.cond sl (sr (.cond sl sc))))) sl))
def F_segment_Part (first last : Bool) (w : World) (R : Value -> WP) : Prop :=
 (∃ b : Bool -> WP,
 (∀ (_ : Env) (c : Bool) (a : World), b c a ->
 (bsplit c
 (R (Iv (0 : Int)) a)
 ((bsplit first
 (R (Iv (1 : Int)) a)
 ((bsplit last
 (R (Iv (2 : Int)) a)
 (R (Iv (3 : Int)) a))))))) /\
 (bsplit first
 (b last w)
 (b false w)))
theorem F_segment_Part_ok {R : EP} (first last : Bool) (w : World) (h : F_segment_Part first last w fun v w' => R (.returned v) w') : CP N_segment_Part #[(.bool first), (.bool last)] w R :=
 calls_of (k := TTk) (h := h_segment_Part) (f := 145) follows_ok Tryz.func145 (Eq.mpr (by kernel_rfl) h)

def h_segment_Cut : H := (sr (sr (.seq (.block (sr (.cond sl sc))) (sr (sr (.seq sc (sr (sr (.seq (.draw .blk (so 0 4 (po 4 4 (so 9 1 (ko 8 1 (ko 10 1 (so 11 1 (lo 12 1 .nil)))))))) (sr (.seq (.draw .blk (po 0 2 (so 4 2 (ko 2 2 (so 8 1 (ko 6 2 (ko 9 1 (so 10 1 (lo 11 1 .nil))))))))) (.seq (.draw .blk (po 0 1 (so 1 1 (ko 2 2 (so 4 1 .nil))))) .leaf))))))))))))
def F_segment_Cut (bits p_0 p_1 p_2 p_3 : Int) (p_4_a : OA) (p_4_l p_4_c : Nat) (size : Int) (w : World) (R : Value -> WP) : Prop :=
 (kAlloc w #[(Iv p_0), (Iv p_1), (Iv p_2), (Iv p_3), (.slice p_4_a p_4_l p_4_c)] Ty_api_Piece fun a2 d5 =>
 (kAlloc d5 #[Iv (0 : Int), Iv (0 : Int), Iv (0 : Int), Iv (0 : Int), .slice none 0 0] Ty_api_Piece fun a d6 =>
 (kAlloc d6 #[Iv (0 : Int), Iv (0 : Int), Iv (0 : Int), Iv (0 : Int), .slice none 0 0] Ty_api_Piece fun b dx =>
 (kLd dx ⟨a2, 1, none⟩ .i64 fun eg =>
 (CP N_segment_head #[(Iv eg)] dx fun d4 dy =>
 ∃ d2 : Int, d4 = .returned (Iv d2) /\
 (∃ c4 c5 c6 c7 : Int, ∃ ay : OA, ∃ a0 az : Nat, cellsAt dy ⟨a2, 0, none⟩ 0 [(Iv c4), (Iv c5), (Iv c6), (Iv c7), (.slice ay a0 az)] /\
 (CP N_segment_Valid #[(Iv bits), (.agg #[Iv c4, Iv c5, Iv c6, Iv c7, .slice ay a0 az])] dy fun df cm =>
 ∃ dm : Bool, df = .returned (.bool dm) /\
 (bsplit (!dm)
 ((sxStore cm ⟨a, 0, none⟩ 0 [(Iv (0 : Int)), (Iv (0 : Int)), (Iv (0 : Int)), (Iv (0 : Int)), (.slice none 0 0)] fun d7 =>
 (sxStore d7 ⟨b, 0, none⟩ 0 [(Iv (0 : Int)), (Iv (0 : Int)), (Iv (0 : Int)), (Iv (0 : Int)), (.slice none 0 0)] fun c9 =>
 (∃ cn co cp cq : Int, ∃ au : OA, ∃ aw av : Nat, cellsAt c9 ⟨a, 0, none⟩ 0 [(Iv cn), (Iv co), (Iv cp), (Iv cq), (.slice au aw av)] /\
 (∃ a3 ba bh bo : Int, ∃ e : OA, ∃ s l : Nat, cellsAt c9 ⟨b, 0, none⟩ 0 [(Iv a3), (Iv ba), (Iv bh), (Iv bo), (.slice e s l)] /\
 R (.tuple #[(.agg #[Iv cn, Iv co, Iv cp, Iv cq, .slice au aw av]), (.agg #[Iv a3, Iv ba, Iv bh, Iv bo, .slice e s l]), (Iv (1 : Int))]) c9)))))
 ((kW .i64 (d2 + (1 : Int)) fun d9 =>
 (kLet (decide (size < d9)) fun ea =>
 (bsplit ea
 ((sxStore cm ⟨a, 0, none⟩ 0 [(Iv (0 : Int)), (Iv (0 : Int)), (Iv (0 : Int)), (Iv (0 : Int)), (.slice none 0 0)] fun d8 =>
 (sxStore d8 ⟨b, 0, none⟩ 0 [(Iv (0 : Int)), (Iv (0 : Int)), (Iv (0 : Int)), (Iv (0 : Int)), (.slice none 0 0)] fun da =>
 (∃ a4 bb bi bp : Int, ∃ f : OA, ∃ t m : Nat, cellsAt da ⟨a, 0, none⟩ 0 [(Iv a4), (Iv bb), (Iv bi), (Iv bp), (.slice f t m)] /\
 (∃ a5 bc bj bq : Int, ∃ g : OA, ∃ u n : Nat, cellsAt da ⟨b, 0, none⟩ 0 [(Iv a5), (Iv bc), (Iv bj), (Iv bq), (.slice g u n)] /\
 R (.tuple #[(.agg #[Iv a4, Iv bb, Iv bi, Iv bp, .slice f t m]), (.agg #[Iv a5, Iv bc, Iv bj, Iv bq, .slice g u n]), (Iv (15 : Int))]) da)))))
 ((∃ b0 b5 ca cf : Int, ∃ ad : OA, ∃ an ai : Nat, cellsAt cm ⟨a2, 0, none⟩ 0 [(Iv b0), (Iv b5), (Iv ca), (Iv cf), (.slice ad an ai)] /\
 (sxStore cm ⟨a, 0, none⟩ 0 [(Iv b0), (Iv b5), (Iv ca), (Iv cf), (.slice ad an ai)] fun cu =>
 (kLdS cu ⟨a2, 4, none⟩ fun dz d1 d0 =>
 (CP N_slices_Clone_Sbyte_byte #[(.slice dz d1 d0)] cu fun dg ds =>
 ∃ cr : OA, ∃ ct cs : Nat, dg = .returned (.slice cr ct cs) /\
 (kSet ds ⟨a, 4, none⟩ (.slice cr ct cs) fun aa =>
 (kLdS aa ⟨a2, 4, none⟩ fun _ de _ =>
 (kW .i64 (d2 + (de : Int)) fun eb =>
 (bsplit (decide (eb <= size))
 ((∃ b1 b6 cb cg : Int, ∃ ae : OA, ∃ ao aj : Nat, cellsAt aa ⟨a, 0, none⟩ 0 [(Iv b1), (Iv b6), (Iv cb), (Iv cg), (.slice ae ao aj)] /\
 (sxStore aa ⟨a, 0, none⟩ 0 [(Iv b1), (Iv b6), (Iv cb), (Iv cg), (.slice ae ao aj)] fun dt =>
 (sxStore dt ⟨b, 0, none⟩ 0 [(Iv (0 : Int)), (Iv (0 : Int)), (Iv (0 : Int)), (Iv (0 : Int)), (.slice none 0 0)] fun bz =>
 (∃ a6 bd bk br : Int, ∃ h : OA, ∃ v o : Nat, cellsAt bz ⟨a, 0, none⟩ 0 [(Iv a6), (Iv bd), (Iv bk), (Iv br), (.slice h v o)] /\
 (∃ a7 be bl bs : Int, ∃ i : OA, ∃ x p : Nat, cellsAt bz ⟨b, 0, none⟩ 0 [(Iv a7), (Iv be), (Iv bl), (Iv bs), (.slice i x p)] /\
 R (.tuple #[(.agg #[Iv a6, Iv bd, Iv bk, Iv br, .slice h v o]), (.agg #[Iv a7, Iv be, Iv bl, Iv bs, .slice i x p]), (Iv (0 : Int))]) bz))))))
 ((kW .i64 (size - d2) fun c =>
 (∃ b2 b7 cc ch : Int, ∃ af : OA, ∃ ap ak : Nat, cellsAt aa ⟨a2, 0, none⟩ 0 [(Iv b2), (Iv b7), (Iv cc), (Iv ch), (.slice af ap ak)] /\
 (sxStore aa ⟨b, 0, none⟩ 0 [(Iv b2), (Iv b7), (Iv cc), (Iv ch), (.slice af ap ak)] fun du =>
 (kDrew du fun ab =>
 (∃ d3 : Nat -> Prop,
 (d3 a2 /\
 (kLd ab ⟨a2, 3, none⟩ .i64 fun ec =>
 (kW .i64 (ec + c) fun ed =>
 (kLdS ab ⟨a2, 4, none⟩ fun db cl ck =>
 ((0 <= c /\ c <= ((cl : Nat) : Int)) /\ (CP N_slices_Clone_Sbyte_byte #[(.slice (slAddr ck (c.toNat) 1 db) (cl - c.toNat) (ck - c.toNat))] ab fun dh cv =>
 ∃ bv : OA, ∃ bx bw : Nat, dh = .returned (.slice bv bx bw) /\
 (KeepsB d3 ab cv /\ (kSet cv ⟨b, 3, none⟩ (Iv ed) fun cw =>
 (KeepsB d3 ab cw /\ (kSet cw ⟨b, 4, none⟩ (.slice bv bx bw) fun cx =>
 (kLdS cx ⟨a, 4, none⟩ fun dc _ dd =>
 ((0 <= c /\ c <= ((dd : Nat) : Int)) /\ ((0 <= c /\ c <= ((c.toNat : Nat) : Int)) /\ (kSet cx ⟨a, 4, none⟩ (.slice (slAddr (c.toNat) 0 1 dc) (c.toNat - 0) (c.toNat - 0)) fun dv =>
 (kDrew dv fun d =>
 (∃ a1 : Nat -> Prop,
 (kLd d ⟨a2, 1, none⟩ .i64 fun ee =>
 (a1 a2 /\
 (kLd d ⟨a2, 1, none⟩ .i64 fun ef =>
 (CP N_segment_begins #[(Iv ee)] d fun di cy =>
 ∃ dn : Bool, di = .returned (.bool dn) /\
 (KeepsB a1 d cy /\ (CP N_segment_Part #[(.bool dn), (.bool false)] cy fun dj cz =>
 ∃ dp : Int, dj = .returned (Iv dp) /\
 (KeepsB a1 d cz /\ (CP N_segment_Ends #[(Iv ef)] cz fun dk c0 =>
 ∃ dq : Bool, dk = .returned (.bool dq) /\
 (KeepsB a1 d c0 /\ (CP N_segment_Part #[(.bool false), (.bool dq)] c0 fun dl c1 =>
 ∃ dr : Int, dl = .returned (Iv dr) /\
 (KeepsB a1 d c1 /\ (kSet c1 ⟨a, 1, none⟩ (Iv dp) fun c2 =>
 (KeepsB a1 d c2 /\ (kSet c2 ⟨b, 1, none⟩ (Iv dr) fun dw =>
 (kDrew dw fun ac =>
 (∃ c8 : Nat -> Prop,
 (∃ b3 b8 cd ci : Int, ∃ ag : OA, ∃ aq al : Nat, cellsAt ac ⟨a, 0, none⟩ 0 [(Iv b3), (Iv b8), (Iv cd), (Iv ci), (.slice ag aq al)] /\
 (c8 b /\
 (∃ b4 b9 ce cj : Int, ∃ ah : OA, ∃ ar am : Nat, cellsAt ac ⟨b, 0, none⟩ 0 [(Iv b4), (Iv b9), (Iv ce), (Iv cj), (.slice ah ar am)] /\
 (sxStore ac ⟨a, 0, none⟩ 0 [(Iv b3), (Iv b8), (Iv cd), (Iv ci), (.slice ag aq al)] fun c3 =>
 (KeepsB c8 ac c3 /\ (sxStore c3 ⟨b, 0, none⟩ 0 [(Iv b4), (Iv b9), (Iv ce), (Iv cj), (.slice ah ar am)] fun ax =>
 (KeepsB c8 ac ax /\ (∃ a8 bf bm bt : Int, ∃ j : OA, ∃ y q : Nat, cellsAt ax ⟨a, 0, none⟩ 0 [(Iv a8), (Iv bf), (Iv bm), (Iv bt), (.slice j y q)] /\
 (∃ a9 bg bn bu : Int, ∃ k : OA, ∃ z r : Nat, cellsAt ax ⟨b, 0, none⟩ 0 [(Iv a9), (Iv bg), (Iv bn), (Iv bu), (.slice k z r)] /\
 R (.tuple #[(.agg #[Iv a8, Iv bf, Iv bm, Iv bt, .slice j y q]), (.agg #[Iv a9, Iv bg, Iv bn, Iv bu, .slice k z r]), (Iv (0 : Int))]) ax))))))))))))))))))))))))))))))))))))))))))))))))))))))))))))))))))))
theorem F_segment_Cut_ok {R : EP} (bits p_0 p_1 p_2 p_3 : Int) (p_4_a : OA) (p_4_l p_4_c : Nat) (size : Int) (w : World) (h : F_segment_Cut bits p_0 p_1 p_2 p_3 p_4_a p_4_l p_4_c size w fun v w' => R (.returned v) w') : CP N_segment_Cut #[(Iv bits), (.agg #[Iv p_0, Iv p_1, Iv p_2, Iv p_3, .slice p_4_a p_4_l p_4_c]), (Iv size)] w R :=
 calls_of (k := TTk) (h := h_segment_Cut) (f := 146) follows_ok Tryz.func146 (Eq.mpr (by kernel_rfl) h)

def h_sender_take : H := (.seq sc (sr (.seq (.draw .no (so 0 15 .nil)) (.cond .reg .leaf))))
def F_sender_take (u_b u_o : Nat) (n : Int) (w : World) (R : Value -> WP) : Prop :=
 (kLdS w ⟨u_b, u_o + 4, none⟩ fun _ k _ =>
 (bsplit (decide ((k : Int) = (0 : Int)))
 ((kLd w ⟨u_b, u_o + 2, none⟩ .i64 fun z =>
 (kW .i64 (z + n) fun s =>
 (kSet w ⟨u_b, u_o + 2, none⟩ (Iv s) fun p =>
 R (.tuple #[]) p))))
 ((kLdS w ⟨u_b, u_o + 4, none⟩ fun b d _ =>
 (kIx b d (0 : Int) fun y =>
 (kLd w ((y.add ((0 : Int).toNat * 3)).add 1) .i64 fun t =>
 (kW .i64 (t + n) fun u =>
 (kIx b d (0 : Int) fun l =>
 (kSet w ((l.add ((0 : Int).toNat * 3)).add 1) (Iv u) fun q =>
 (kDrew q fun a =>
 (kLdS a ⟨u_b, u_o + 4, none⟩ fun f i _ =>
 (kIx f i (0 : Int) fun m =>
 (kLd a ((m.add ((0 : Int).toNat * 3)).add 1) .i64 fun v =>
 (kLdS a ⟨u_b, u_o + 4, none⟩ fun g j _ =>
 (kIx g j (0 : Int) fun o =>
 (kLd a ((o.add ((0 : Int).toNat * 3)).add 2) .i64 fun x =>
 (bsplit (decide (v = x))
 ((kLdS a ⟨u_b, u_o + 4, none⟩ fun h e c =>
 ((0 <= (1 : Int) /\ (1 : Int) <= ((e : Nat) : Int)) /\ (kSet a ⟨u_b, u_o + 4, none⟩ (.slice (slAddr c ((1 : Int).toNat) 3 h) (e - (1 : Int).toNat) (c - (1 : Int).toNat)) fun r =>
 R (.tuple #[]) r))))
 (R (.tuple #[]) a))))))))))))))))))
theorem F_sender_take_ok {R : EP} (u_b u_o : Nat) (n : Int) (w : World) (h : F_sender_take u_b u_o n w fun v w' => R (.returned v) w') : CP N_sender_take #[(.pointer (some ⟨u_b, u_o, none⟩)), (Iv n)] w R :=
 calls_of (k := TTk) (h := h_sender_take) (f := 147) follows_ok Tryz.func147 (Eq.mpr (by kernel_rfl) h)

def h_sender_side_ask : H := (sr (sr (sr (.block (.loop [(29, .p (.int .i64))] ([5] ++ rg 29 14) (sr (.seq (.cond .leaf .leaf) (.seq (.block (sr (sr (.cond .reg .leaf)))) .reg))))))))
def F_sender_side_ask (s_b s_o p_b p_o : Nat) (w : World) (R : Value -> WP) : Prop :=
 (kSet w ⟨p_b, p_o + 2, none⟩ (Iv (1 : Int)) fun p =>
 (kLd p ⟨s_b, s_o + 2, none⟩ .i64 fun ab =>
 (kSet p ⟨s_b, s_o + 9, none⟩ (Iv (0 : Int)) fun u =>
 (kSet u ⟨s_b, s_o + 11, none⟩ (Iv ab) fun q =>
 (kLdS q ⟨s_b, s_o + 8, none⟩ fun t n _ =>
 (∃ j : Int -> Nat × (WP), (j (0 : Int)).2 q /\
 (∀ (_ : Env) (a : Int) (h : World), (j a).2 h ->
 (bsplit (decide (a < (n : Int)))
 ((kIx t n a fun aa =>
 (∃ k : Int, ∃ b : OA, ∃ d c : Nat, ∃ l m : Int, ∃ e : OA, ∃ g f : Nat, cellsAt h (aa.add (a.toNat * 5)) 0 [(Iv k), (.slice b d c), (Iv l), (Iv m), (.slice e g f)] /\
 (kAlloc h #[Iv (0 : Int), .slice none 0 0, Iv (0 : Int), Iv (0 : Int), .slice none 0 0] Ty_api_Unit fun o v =>
 (sxStore v ⟨o, 0, none⟩ 0 [(Iv k), (.slice b d c), (Iv l), (Iv m), (.slice e g f)] fun i =>
 (kLd i ⟨o, 2, none⟩ .i64 fun y =>
 (bsplit (decide (y > (0 : Int)))
 ((kLd i ⟨o, 0, none⟩ .i64 fun z =>
 (kSet i ⟨s_b, s_o + 10, none⟩ (Iv z) fun x =>
 (kW .i64 (a + (1 : Int)) fun r =>
 ((j r).2 x /\ (j r).1 < (j a).1)))))
 ((kW .i64 (a + (1 : Int)) fun s =>
 ((j s).2 i /\ (j s).1 < (j a).1))))))))))
 (R (.tuple #[]) h)))))))))
theorem F_sender_side_ask_ok {R : EP} (s_b s_o p_b p_o : Nat) (w : World) (h : F_sender_side_ask s_b s_o p_b p_o w fun v w' => R (.returned v) w') : CP N_sender_side_ask #[(.pointer (some ⟨s_b, s_o, none⟩)), (.pointer (some ⟨p_b, p_o, none⟩))] w R :=
 calls_of (k := TTk) (h := h_sender_side_ask) (f := 148) follows_ok Tryz.func148 (Eq.mpr (by kernel_rfl) h)

def h_segment_Encode : H := (sr (.seq sc (sr (sr (.seq (sr (.cond .reg .leaf)) sl)))))
def F_segment_Encode (bits p_0 p_1 p_2 p_3 : Int) (p_4_a : OA) (p_4_l p_4_c : Nat) (w : World) (R : Value -> WP) : Prop :=
 (kAlloc w #[(Iv p_0), (Iv p_1), (Iv p_2), (Iv p_3), (.slice p_4_a p_4_l p_4_c)] Ty_api_Piece fun f aa =>
 (∃ g h i j : Int, ∃ a : OA, ∃ c b : Nat, cellsAt aa ⟨f, 0, none⟩ 0 [(Iv g), (Iv h), (Iv i), (Iv j), (.slice a c b)] /\
 (CP N_segment_Valid #[(Iv bits), (.agg #[Iv g, Iv h, Iv i, Iv j, .slice a c b])] aa fun ap d =>
 ∃ a3 : Bool, ap = .returned (.bool a3) /\
 (bsplit (!a3)
 (R (.tuple #[(.slice none 0 0), (Iv (1 : Int))]) d)
 ((kLd d ⟨f, 2, none⟩ .i64 fun a4 =>
 (kW .i64 (a4 * 2 ^ 14) fun av =>
 (kLet (bOr .i64 (32768 : Int) av) fun aw =>
 (kLd d ⟨f, 1, none⟩ .i64 fun ax =>
 (kW .i64 (ax * 2 ^ 12) fun ay =>
 (kLet (bOr .i64 aw ay) fun az =>
 (kLd d ⟨f, 0, none⟩ .i64 fun a0 =>
 (kLet (bOr .i64 az a0) fun ak =>
 (kLet (Int.fdiv ak (2 ^ 8)) fun a1 =>
 (kW .u8 (a1) fun a2 =>
 (kW .u8 (ak) fun ad =>
 (kAlloc d #[(.int .u8 a2), (.int .u8 ad)] Ty_uint8 fun x ab =>
 (kLd ab ⟨f, 1, none⟩ .i64 fun ae =>
 (CP N_segment_begins #[(Iv ae)] ab fun y e =>
 ∃ z : Bool, y = .returned (.bool z) /\
 (bsplit (!z)
 ((kLd e ⟨f, 3, none⟩ .i64 fun af =>
 (kLet (Int.fdiv af (2 ^ 8)) fun ag =>
 (kW .u8 (ag) fun ah =>
 (kLd e ⟨f, 3, none⟩ .i64 fun ai =>
 (kW .u8 (ai) fun aj =>
 (kAlloc e #[(.int .u8 ah), (.int .u8 aj)] Ty_uint8 fun ao aq =>
 (AppP Tryz.prog #[Ty_S_uint8, Ty_S_uint8] Ty_S_uint8 #[(.slice (some ⟨x, 0, none⟩) 2 2), (.slice (some ⟨ao, 0, none⟩) 2 2)] aq fun al an am ac =>
 (kLdS ac ⟨f, 4, none⟩ fun k s o =>
 (AppP Tryz.prog #[Ty_S_uint8, Ty_S_uint8] Ty_S_uint8 #[(.slice al an am), (.slice k s o)] ac fun l t p ar =>
 R (.tuple #[(.slice l t p), (Iv (0 : Int))]) ar))))))))))
 ((kLdS e ⟨f, 4, none⟩ fun m u q =>
 (AppP Tryz.prog #[Ty_S_uint8, Ty_S_uint8] Ty_S_uint8 #[(.slice (some ⟨x, 0, none⟩) 2 2), (.slice m u q)] e fun n v r au =>
 R (.tuple #[(.slice n v r), (Iv (0 : Int))]) au)))))))))))))))))))))))
theorem F_segment_Encode_ok {R : EP} (bits p_0 p_1 p_2 p_3 : Int) (p_4_a : OA) (p_4_l p_4_c : Nat) (w : World) (h : F_segment_Encode bits p_0 p_1 p_2 p_3 p_4_a p_4_l p_4_c w fun v w' => R (.returned v) w') : CP N_segment_Encode #[(Iv bits), (.agg #[Iv p_0, Iv p_1, Iv p_2, Iv p_3, .slice p_4_a p_4_l p_4_c])] w R :=
 calls_of (k := TTk) (h := h_segment_Encode) (f := 149) follows_ok Tryz.func149 (Eq.mpr (by kernel_rfl) h)

def h_receiver_Status : H := (sr (.seq sc (sr (sr (.seq (sr (.block (.loop [(6, .p (.int .i64))] ([6, 7] ++ rg 20 24) (.seq (sr (.cond .leaf .leaf)) (.seq (.block (sr (.seq sc .reg))) .reg))))) sl)))))
def F_receiver_Status (r_0 r_1 r_2 r_3 r_4 r_5 r_6 r_7 r_8 r_9 r_10 r_11 : Int) (r_12 : Bool) (r_13_a : OA) (r_13_l r_13_c : Nat) (w : World) (R : Value -> WP) : Prop :=
 (kAlloc w #[(Iv r_0), (Iv r_1), (Iv r_2), (Iv r_3), (Iv r_4), (Iv r_5), (Iv r_6), (Iv r_7), (Iv r_8), (Iv r_9), (Iv r_10), (Iv r_11), (.bool r_12), (.slice r_13_a r_13_l r_13_c)] Ty_api_Receiver fun bn b1 =>
 (kAlloc b1 #[Iv (0 : Int), .slice none 0 0] Ty_api_Status fun aa bu =>
 (∃ a3 a4 a5 a6 a7 a8 a9 ba bb bc aj ak : Int, ∃ al : Bool, ∃ j : OA, ∃ l k : Nat, cellsAt bu ⟨bn, 0, none⟩ 0 [(Iv a3), (Iv a4), (Iv a5), (Iv a6), (Iv a7), (Iv a8), (Iv a9), (Iv ba), (Iv bb), (Iv bc), (Iv aj), (Iv ak), (.bool al), (.slice j l k)] /\
 (CP N_receiver_Valid #[(.agg #[Iv a3, Iv a4, Iv a5, Iv a6, Iv a7, Iv a8, Iv a9, Iv ba, Iv bb, Iv bc, Iv aj, Iv ak, .bool al, .slice j l k])] bu fun b0 be =>
 ∃ b6 : Bool, b0 = .returned (.bool b6) /\
 (bsplit (!b6)
 ((sxStore be ⟨aa, 0, none⟩ 0 [(Iv (0 : Int)), (.slice none 0 0)] fun bv =>
 (∃ ab : Int, ∃ q : OA, ∃ s r : Nat, cellsAt bv ⟨aa, 0, none⟩ 0 [(Iv ab), (.slice q s r)] /\
 R (.tuple #[(.agg #[Iv ab, .slice q s r]), (Iv (1 : Int))]) bv)))
 ((∃ ag am an ao ap aq ar au av aw t u : Int, ∃ v : Bool, ∃ a : OA, ∃ c b : Nat, cellsAt be ⟨bn, 0, none⟩ 0 [(Iv ag), (Iv am), (Iv an), (Iv ao), (Iv ap), (Iv aq), (Iv ar), (Iv au), (Iv av), (Iv aw), (Iv t), (Iv u), (.bool v), (.slice a c b)] /\
 (kAlloc be #[(Iv ag), (Iv am), (Iv an), (Iv ao), (Iv ap), (Iv aq), (Iv ar), (Iv au), (Iv av), (Iv aw), (Iv t), (Iv u), (.bool v), (.slice a c b)] Ty_receiver_side fun bo bw =>
 (kLd bw ⟨bn, 8, none⟩ .i64 fun b7 =>
 (kAlloc bw #[Iv (0 : Int), .slice none 0 0] Ty_api_Status fun p b2 =>
 (sxStore b2 ⟨p, 0, none⟩ 0 [(Iv b7), (.slice none 0 0)] fun bx =>
 (kLd bx ⟨bn, 6, none⟩ .i64 fun b3 =>
 (∃ bm : Int -> Nat × (WP), (bm b3).2 bx /\
 (∀ (_ : Env) (bl : Int) (af : World), (bm bl).2 af ->
 (kLd af ⟨bn, 8, none⟩ .i64 fun b4 =>
 (bsplit (!decide (bl = b4))
 ((CP N_receiver_side_missing #[(.pointer (some ⟨bo, 0, none⟩)), (Iv bl)] af fun bp ax =>
 ∃ ay : OA, ∃ ae az : Nat, bp = .returned (.slice ay ae az) /\
 (kLdS ax ⟨p, 1, none⟩ fun _ bz _ =>
 (kW .i64 ((bz : Int) + (ae : Int)) fun b5 =>
 (bsplit (decide (b5 > (64 : Int)))
 ((kSet ax ⟨p, 0, none⟩ (Iv bl) fun a0 =>
 (∃ ah : Int, ∃ x : OA, ∃ z y : Nat, cellsAt a0 ⟨p, 0, none⟩ 0 [(Iv ah), (.slice x z y)] /\
 (sxStore a0 ⟨aa, 0, none⟩ 0 [(Iv ah), (.slice x z y)] fun a1 =>
 (∃ ac : Int, ∃ d : OA, ∃ h f : Nat, cellsAt a1 ⟨aa, 0, none⟩ 0 [(Iv ac), (.slice d h f)] /\
 R (.tuple #[(.agg #[Iv ac, .slice d h f]), (Iv (0 : Int))]) a1)))))
 ((kLdS ax ⟨p, 1, none⟩ fun bf bj bh =>
 (AppP Tryz.prog #[Ty_S_api_Range, Ty_S_api_Range] Ty_S_api_Range #[(.slice bf bj bh), (.slice ay ae az)] ax fun bg bk bi br =>
 (kSet br ⟨p, 1, none⟩ (.slice bg bk bi) fun bs =>
 (CP N_receiver_side_behind #[(.pointer (some ⟨bo, 0, none⟩)), (Iv bl)] bs fun bq bt =>
 ∃ bd : Int, bq = .returned (Iv bd) /\
 ((bm bd).2 bt /\ (bm bd).1 < (bm bl).1)))))))))))
 ((∃ ai : Int, ∃ m : OA, ∃ o n : Nat, cellsAt af ⟨p, 0, none⟩ 0 [(Iv ai), (.slice m o n)] /\
 (sxStore af ⟨aa, 0, none⟩ 0 [(Iv ai), (.slice m o n)] fun a2 =>
 (∃ ad : Int, ∃ e : OA, ∃ i g : Nat, cellsAt a2 ⟨aa, 0, none⟩ 0 [(Iv ad), (.slice e i g)] /\
 R (.tuple #[(.agg #[Iv ad, .slice e i g]), (Iv (0 : Int))]) a2))))))))))))))))))))
theorem F_receiver_Status_ok {R : EP} (r_0 r_1 r_2 r_3 r_4 r_5 r_6 r_7 r_8 r_9 r_10 r_11 : Int) (r_12 : Bool) (r_13_a : OA) (r_13_l r_13_c : Nat) (w : World) (h : F_receiver_Status r_0 r_1 r_2 r_3 r_4 r_5 r_6 r_7 r_8 r_9 r_10 r_11 r_12 r_13_a r_13_l r_13_c w fun v w' => R (.returned v) w') : CP N_receiver_Status #[(.agg #[Iv r_0, Iv r_1, Iv r_2, Iv r_3, Iv r_4, Iv r_5, Iv r_6, Iv r_7, Iv r_8, Iv r_9, Iv r_10, Iv r_11, .bool r_12, .slice r_13_a r_13_l r_13_c])] w R :=
 calls_of (k := TTk) (h := h_receiver_Status) (f := 150) follows_ok Tryz.func150 (Eq.mpr (by kernel_rfl) h)

def h_status_Fit : H := (sr (.seq (.block (sr (.cond sl sc))) (sr (sr (.seq (sr (.block (.loop [(8, .p (.int .i64)), (9, .p (.int .i64)), (29, .p (.int .i64))] (rg 7 5 ++ rg 29 37) (sr (.seq (.cond .leaf .leaf) (.seq (.block (sr (.cut [(9, .p (.int .i64))] ([9] ++ rg 34 15) (.seq (.draw .no (so 0 14 .nil)) (.cond .reg .leaf)) (sr (sr (.cond (.seq (.draw .blk (po 0 4 (so 4 2 (po 6 1 (ko 7 1 (so 8 1 (lo 9 1 .nil))))))) sl) .leaf)))))) .reg)))))) sl)))))
def F_status_Fit (bits s_0 : Int) (s_1_a : OA) (s_1_l s_1_c : Nat) (space : Int) (w : World) (R : Value -> WP) : Prop :=
 (kAlloc w #[(Iv s_0), (.slice s_1_a s_1_l s_1_c)] Ty_api_Status fun aq bu =>
 (kAlloc bu #[Iv (0 : Int), .slice none 0 0] Ty_api_Status fun e bh =>
 (∃ a4 : Int, ∃ ab : OA, ∃ ad ac : Nat, cellsAt bh ⟨aq, 0, none⟩ 0 [(Iv a4), (.slice ab ad ac)] /\
 (CP N_status_Valid #[(Iv bits), (.agg #[Iv a4, .slice ab ad ac])] bh fun bt au =>
 ∃ b1 : Bool, bt = .returned (.bool b1) /\
 (bsplit (!b1)
 ((sxStore au ⟨e, 0, none⟩ 0 [(Iv (0 : Int)), (.slice none 0 0)] fun bi =>
 (∃ av : Int, ∃ x : OA, ∃ z y : Nat, cellsAt bi ⟨e, 0, none⟩ 0 [(Iv av), (.slice x z y)] /\
 R (.tuple #[(.agg #[Iv av, .slice x z y]), (Iv (1 : Int))]) bi)))
 ((kLet (decide (space < (3 : Int))) fun b3 =>
 (bsplit b3
 ((sxStore au ⟨e, 0, none⟩ 0 [(Iv (0 : Int)), (.slice none 0 0)] fun bj =>
 (∃ ae : Int, ∃ f : OA, ∃ l i : Nat, cellsAt bj ⟨e, 0, none⟩ 0 [(Iv ae), (.slice f l i)] /\
 R (.tuple #[(.agg #[Iv ae, .slice f l i]), (Iv (15 : Int))]) bj)))
 ((kLdS au ⟨aq, 1, none⟩ fun bn bp bo =>
 (CP N_slices_Clone_Sapi_Range_api_Range #[(.slice bn bp bo)] au fun bd bv =>
 ∃ aw : OA, ∃ ay ax : Nat, bd = .returned (.slice aw ay ax) /\
 (kSet bv ⟨aq, 1, none⟩ (.slice aw ay ax) fun bk =>
 (kLdS bk ⟨aq, 1, none⟩ fun a8 ap _ =>
 (∃ bc : Int -> Int -> Int -> Nat × (WP), (bc (3 : Int) (0 : Int) (0 : Int)).2 bk /\
 (∀ (_ : Env) (u : Int) (c : Int) (d : Int) (ai : World), (bc u c d).2 ai ->
 (bsplit (decide (d < (ap : Int)))
 ((kIx a8 ap d fun br =>
 (∃ aj a5 a6 : Int, cellsAt ai (br.add (d.toNat * 3)) 0 [(Iv aj), (Iv a5), (Iv a6)] /\
 (kAlloc ai #[Iv (0 : Int), Iv (0 : Int), Iv (0 : Int)] Ty_api_Range fun ar bw =>
 (sxStore bw ⟨ar, 0, none⟩ 0 [(Iv aj), (Iv a5), (Iv a6)] fun bg =>
 (∃ bq : Int -> WP,
 (∀ (_ : Env) (a : Int) (ah : World), bq a ah ->
 (∃ ak an ao : Int, cellsAt ah ⟨ar, 0, none⟩ 0 [(Iv ak), (Iv an), (Iv ao)] /\
 (CP N_status_size #[(.agg #[Iv ak, Iv an, Iv ao])] ah fun be az =>
 ∃ bf : Int, be = .returned (Iv bf) /\
 (kW .i64 (u + bf) fun a7 =>
 (bsplit (decide (a7 > space))
 ((kDrew az fun aa =>
 (∃ b2 : Nat -> Prop,
 (kLd aa ⟨ar, 0, none⟩ .i64 fun b0 =>
 (kLdS aa ⟨aq, 1, none⟩ fun ba _ v =>
 ((0 <= a /\ a <= ((v : Nat) : Int)) /\ (kSet aa ⟨aq, 0, none⟩ (Iv b0) fun a0 =>
 (KeepsB b2 aa a0 /\ (kSet a0 ⟨aq, 1, none⟩ (.slice (slAddr v 0 3 ba) (a.toNat - 0) (v - 0)) fun a1 =>
 (∃ al : Int, ∃ o : OA, ∃ s q : Nat, cellsAt a1 ⟨aq, 0, none⟩ 0 [(Iv al), (.slice o s q)] /\
 (sxStore a1 ⟨e, 0, none⟩ 0 [(Iv al), (.slice o s q)] fun a2 =>
 (∃ af : Int, ∃ g : OA, ∃ m j : Nat, cellsAt a2 ⟨e, 0, none⟩ 0 [(Iv af), (.slice g m j)] /\
 R (.tuple #[(.agg #[Iv af, .slice g m j]), (Iv (0 : Int))]) a2))))))))))))
 ((kW .i64 (d + (1 : Int)) fun bm =>
 ((bc a7 a bm).2 az /\ (bc a7 a bm).1 < (bc u c d).1)))))))) /\
 (kDrew bg fun b =>
 (bsplit (decide (d > (0 : Int)))
 ((kLd b ⟨ar, 0, none⟩ .i64 fun bx =>
 (kLdS b ⟨aq, 1, none⟩ fun a9 bb _ =>
 (kW .i64 (d - (1 : Int)) fun bl =>
 (kIx a9 bb bl fun bs =>
 (kLd b (bs.add (bl.toNat * 3)) .i64 fun bz =>
 (bsplit (!decide (bx = bz))
 (bq d b)
 (bq c b))))))))
 (bq c b)))))))))
 ((∃ am : Int, ∃ p : OA, ∃ t r : Nat, cellsAt ai ⟨aq, 0, none⟩ 0 [(Iv am), (.slice p t r)] /\
 (sxStore ai ⟨e, 0, none⟩ 0 [(Iv am), (.slice p t r)] fun a3 =>
 (∃ ag : Int, ∃ h : OA, ∃ n k : Nat, cellsAt a3 ⟨e, 0, none⟩ 0 [(Iv ag), (.slice h n k)] /\
 R (.tuple #[(.agg #[Iv ag, .slice h n k]), (Iv (0 : Int))]) a3))))))))))))))))))))
theorem F_status_Fit_ok {R : EP} (bits s_0 : Int) (s_1_a : OA) (s_1_l s_1_c : Nat) (space : Int) (w : World) (h : F_status_Fit bits s_0 s_1_a s_1_l s_1_c space w fun v w' => R (.returned v) w') : CP N_status_Fit #[(Iv bits), (.agg #[Iv s_0, .slice s_1_a s_1_l s_1_c]), (Iv space)] w R :=
 calls_of (k := TTk) (h := h_status_Fit) (f := 151) follows_ok Tryz.func151 (Eq.mpr (by kernel_rfl) h)

def h_receiver_partial : H := (sr (.seq sc (.cut [] ([2] ++ rg 25 21) sc (sr (.seq (.cut [(81, .p .bool)] (rg 47 35) (.draw .blk (po 0 7 (ko 7 1 (so 8 6 (ko 14 1 (so 15 7 (ko 22 1 (so 23 10 (ko 33 1 (so 34 1 .nil)))))))))) (.cond sl .leaf)) (sr (.seq (sr (.block (.loop [(95, .p (.int .i64))] ([2, 7] ++ rg 95 13) (sr (.seq (.cond .leaf .leaf) (.seq (.block (sr sc)) .reg)))))) sl)))))))
def F_receiver_partial (p_0 : Int) (p_1 : Bool) (p_2 : Int) (p_3_a : OA) (p_3_l p_3_c : Nat) (p_4_a : OA) (p_4_l p_4_c : Nat) (w : World) (R : Value -> WP) : Prop :=
 (kAlloc w #[(Iv p_0), (.bool p_1), (Iv p_2), (.slice p_3_a p_3_l p_3_c), (.slice p_4_a p_4_l p_4_c)] Ty_api_Partial fun c a =>
 (kLdB a ⟨c, 1, none⟩ fun bv =>
 (bsplit bv
 ((kLd a ⟨c, 2, none⟩ .i64 fun bn =>
 (bsplit (decide (bn = (0 : Int)))
 ((kLdS a ⟨c, 3, none⟩ fun _ bh _ =>
 (bsplit (decide ((bh : Int) = (0 : Int)))
 ((kLdS a ⟨c, 4, none⟩ fun _ ar _ =>
 (kLet (decide ((ar : Int) = (0 : Int))) fun bo =>
 R (.bool bo) a)))
 (R (.bool false) a))))
 (R (.bool false) a))))
 ((∃ bi : WP,
 (∀ (_ : Env)  (be : World), bi be ->
 (∃ f : Bool -> WP,
 (∀ (_ : Env) (bg : Bool) (p : World), f bg p ->
 (bsplit bg
 (R (.bool false) p)
 ((kLdS p ⟨c, 4, none⟩ fun am a1 aq =>
 (kLd p ⟨c, 0, none⟩ .i64 fun bt =>
 (kLdS p ⟨c, 3, none⟩ fun _ z _ =>
 (CP N_segment_Gaps #[(.slice am a1 aq), (Iv bt), (Iv (z : Int))] p fun a6 bm =>
 ∃ aa : OA, ∃ r bc : Nat, ∃ bl : Int, a6 = .returned (.tuple #[(.slice aa r bc), (Iv bl)]) /\
 (∃ a2 : Int -> Nat × (WP), (a2 (0 : Int)).2 bm /\
 (∀ (_ : Env) (q : Int) (g : World), (a2 q).2 g ->
 (bsplit (decide (q < (r : Int)))
 ((kIx aa r q fun bj =>
 (∃ s t u : Int, cellsAt g (bj.add (q.toNat * 3)) 0 [(Iv s), (Iv t), (Iv u)] /\
 (kAlloc g #[Iv (0 : Int), Iv (0 : Int), Iv (0 : Int)] Ty_api_Range fun ag bd =>
 (sxStore bd ⟨ag, 0, none⟩ 0 [(Iv s), (Iv t), (Iv u)] fun h =>
 (kLdS h ⟨c, 3, none⟩ fun y _ d =>
 (kLd h ⟨ag, 1, none⟩ .i64 fun e =>
 (kLd h ⟨ag, 2, none⟩ .i64 fun i =>
 ((0 <= i /\ i <= ((d : Nat) : Int)) /\ ((0 <= e /\ e <= ((i.toNat : Nat) : Int)) /\ (CP N_slices_ContainsFunc_Sbyte_byte #[(.slice (slAddr d (e.toNat) 1 y) (i.toNat - e.toNat) (d - e.toNat)), (.func (.func N_receiver_partial_2) #[] #[])] h fun a7 ab =>
 ∃ bb : Bool, a7 = .returned (.bool bb) /\
 (bsplit bb
 (R (.bool false) ab)
 ((kW .i64 (q + (1 : Int)) fun ac =>
 ((a2 ac).2 ab /\ (a2 ac).1 < (a2 q).1)))))))))))))))
 (R (.bool true) g))))))))))) /\
 (kDrew be fun b =>
 (∃ v : Nat -> Prop,
 (kLdS b ⟨c, 4, none⟩ fun _ av _ =>
 (bsplit (decide ((av : Int) = (0 : Int)))
 (f true b)
 ((kLdS b ⟨c, 4, none⟩ fun aj aw an =>
 (CP N_segment_Normal #[(.slice aj aw an)] b fun bk ah =>
 ∃ bu : Bool, bk = .returned (.bool bu) /\
 (KeepsB v b ah /\ (bsplit (!bu)
 (f true ah)
 ((v c /\
 (kLdS b ⟨c, 4, none⟩ fun ak ax ao =>
 (CP N_slices_ContainsFunc_Sapi_Range_api_Range #[(.slice ak ax ao), (.func (.func N_receiver_partial_1) #[] #[(.pointer (some ⟨c, 0, none⟩))])] ah fun a3 ai =>
 ∃ a8 : Bool, a3 = .returned (.bool a8) /\
 (KeepsB v b ai /\ (bsplit a8
 (f true ai)
 ((v c /\
 (kLdS b ⟨c, 3, none⟩ fun _ ay _ =>
 (v c /\
 (kLdS b ⟨c, 4, none⟩ fun al az ap =>
 (CP N_receiver_end #[(.slice al az ap)] ai fun a4 x =>
 ∃ a9 : Int, a4 = .returned (Iv a9) /\
 (KeepsB v b x /\ (bsplit (!decide ((ay : Int) = a9))
 (f true x)
 ((v c /\
 (kLdS b ⟨c, 3, none⟩ fun _ a0 _ =>
 (bsplit (decide ((a0 : Int) > (2054 : Int)))
 (f true x)
 ((v c /\
 (∃ ad : Int, ∃ ae : Bool, ∃ af : Int, ∃ j : OA, ∃ l k : Nat, ∃ m : OA, ∃ o n : Nat, cellsAt b ⟨c, 0, none⟩ 0 [(Iv ad), (.bool ae), (Iv af), (.slice j l k), (.slice m o n)] /\
 (CP N_receiver_complete #[(.agg #[Iv ad, .bool ae, Iv af, .slice j l k, .slice m o n])] x fun a5 bf =>
 ∃ ba : Bool, a5 = .returned (.bool ba) /\
 (KeepsB v b bf /\ f ba bf)))))))))))))))))))))))))))))))))) /\
 (kLd a ⟨c, 2, none⟩ .i64 fun bp =>
 (bsplit (!decide (bp = (-1 : Int)))
 ((kLd a ⟨c, 2, none⟩ .i64 fun bq =>
 (bsplit (decide (bq < (1 : Int)))
 (R (.bool false) a)
 ((kLd a ⟨c, 2, none⟩ .i64 fun br =>
 (bsplit (decide (br > (2054 : Int)))
 (R (.bool false) a)
 ((kLdS a ⟨c, 3, none⟩ fun _ au _ =>
 (kLd a ⟨c, 2, none⟩ .i64 fun bs =>
 (bsplit (decide ((au : Int) > bs))
 (R (.bool false) a)
 (bi a)))))))))))
 (bi a))))))))
theorem F_receiver_partial_ok {R : EP} (p_0 : Int) (p_1 : Bool) (p_2 : Int) (p_3_a : OA) (p_3_l p_3_c : Nat) (p_4_a : OA) (p_4_l p_4_c : Nat) (w : World) (h : F_receiver_partial p_0 p_1 p_2 p_3_a p_3_l p_3_c p_4_a p_4_l p_4_c w fun v w' => R (.returned v) w') : CP N_receiver_partial #[(.agg #[Iv p_0, .bool p_1, Iv p_2, .slice p_3_a p_3_l p_3_c, .slice p_4_a p_4_l p_4_c])] w R :=
 calls_of (k := TTk) (h := h_receiver_partial) (f := 169) follows_ok Tryz.func169 (Eq.mpr (by kernel_rfl) h)

def h_segment_begins : H := (sr sl)
def F_segment_begins (part : Int) (w : World) (R : Value -> WP) : Prop :=
 (bsplit (decide (part = (0 : Int)))
 (R (.bool true) w)
 ((kLet (decide (part = (1 : Int))) fun a =>
 R (.bool a) w)))
theorem F_segment_begins_ok {R : EP} (part : Int) (w : World) (h : F_segment_begins part w fun v w' => R (.returned v) w') : CP N_segment_begins #[(Iv part)] w R :=
 calls_of (k := TTk) (h := h_segment_begins) (f := 170) follows_ok Tryz.func170 (Eq.mpr (by kernel_rfl) h)

def h_receiver_end : H := (sr (.seq sc sl))
def F_receiver_end (l_a : OA) (l_l _ : Nat) (w : World) (R : Value -> WP) : Prop :=
 (bsplit (decide ((l_l : Int) = (0 : Int)))
 (R (Iv (0 : Int)) w)
 ((kW .i64 ((l_l : Int) - (1 : Int)) fun b =>
 (kIx l_a l_l b fun c =>
 (kLd w ((c.add (b.toNat * 3)).add 2) .i64 fun a =>
 R (Iv a) w)))))
theorem F_receiver_end_ok {R : EP} (l_a : OA) (l_l l_c : Nat) (w : World) (h : F_receiver_end l_a l_l l_c w fun v w' => R (.returned v) w') : CP N_receiver_end #[(.slice l_a l_l l_c)] w R :=
 calls_of (k := TTk) (h := h_receiver_end) (f := 171) follows_ok Tryz.func171 (Eq.mpr (by kernel_rfl) h)

def h_receiver_piece_known_1 : H := (sr sl)
def F_receiver_piece_known_1 (r_0 r_1 r_2 : Int) (cap0_b cap0_o : Nat) (w : World) (R : Value -> WP) : Prop :=
 (kAlloc w #[(Iv r_0), (Iv r_1), (Iv r_2)] Ty_api_Range fun f a =>
 (kLd a ⟨f, 1, none⟩ .i64 fun g =>
 (kLd a ⟨cap0_b, cap0_o + 3, none⟩ .i64 fun b =>
 (bsplit (decide (g <= b))
 ((kLd a ⟨f, 2, none⟩ .i64 fun c =>
 (kLd a ⟨cap0_b, cap0_o + 5, none⟩ .i64 fun d =>
 (kLet (decide (c >= d)) fun e =>
 R (.bool e) a))))
 (R (.bool false) a)))))
theorem F_receiver_piece_known_1_ok {R : EP} (r_0 r_1 r_2 : Int) (cap0_b cap0_o : Nat) (w : World) (h : F_receiver_piece_known_1 r_0 r_1 r_2 cap0_b cap0_o w fun v w' => R (.returned v) w') : CP N_receiver_piece_known_1 #[(.agg #[Iv r_0, Iv r_1, Iv r_2]), (.pointer (some ⟨cap0_b, cap0_o, none⟩))] w R :=
 calls_of (k := TTk) (h := h_receiver_piece_known_1) (f := 172) follows_ok Tryz.func172 (Eq.mpr (by kernel_rfl) h)

def h_slices_ContainsFunc_Sapi_Range_api_Range : H := (sr sl)
def F_slices_ContainsFunc_Sapi_Range_api_Range (s_a : OA) (s_l s_c f_g : Nat) (f_f : Array Value) (f_c : Array Value) (w : World) (R : Value -> WP) : Prop :=
 (CP N_slices_IndexFunc_Sapi_Range_api_Range #[(.slice s_a s_l s_c), (.func (.func f_g) f_f f_c)] w fun a b =>
 ∃ c : Int, a = .returned (Iv c) /\
 (kLet (decide (c >= (0 : Int))) fun d =>
 R (.bool d) b))
theorem F_slices_ContainsFunc_Sapi_Range_api_Range_ok {R : EP} (s_a : OA) (s_l s_c f_g : Nat) (f_f : Array Value) (f_c : Array Value) (w : World) (h : F_slices_ContainsFunc_Sapi_Range_api_Range s_a s_l s_c f_g f_f f_c w fun v w' => R (.returned v) w') : CP N_slices_ContainsFunc_Sapi_Range_api_Range #[(.slice s_a s_l s_c), (.func (.func f_g) f_f f_c)] w R :=
 calls_of (k := TTk) (h := h_slices_ContainsFunc_Sapi_Range_api_Range) (f := 173) follows_ok Tryz.func173 (Eq.mpr (by kernel_rfl) h)

def h_serial_valid : H := (sr sl)
def F_serial_valid (n : Int) (w : World) (R : Value -> WP) : Prop :=
 (bsplit (decide (n >= (1 : Int)))
 ((kLet (decide (n <= (32 : Int))) fun a =>
 R (.bool a) w))
 (R (.bool false) w))
theorem F_serial_valid_ok {R : EP} (n : Int) (w : World) (h : F_serial_valid n w fun v w' => R (.returned v) w') : CP N_serial_valid #[(Iv n)] w R :=
 calls_of (k := TTk) (h := h_serial_valid) (f := 175) follows_ok Tryz.func175 (Eq.mpr (by kernel_rfl) h)

def h_segment_Normal : H := (sr (.seq (sr (.block (.loop [(7, .p (.int .i64))] ([2, 3, 4] ++ rg 7 31) (sr (.seq (.cond .leaf .leaf) (.seq (.block (sr (.seq (.draw .no (so 0 25 .nil)) (.cond sl .leaf)))) .reg)))))) sl))
def F_segment_Normal (l_a : OA) (l_l _ : Nat) (w : World) (R : Value -> WP) : Prop :=
 (∃ e : Int -> Nat × (WP), (e (0 : Int)).2 w /\
 (∀ (_ : Env) (c : Int) (d : World), (e c).2 d ->
 (bsplit (decide (c < (l_l : Int)))
 ((kIx l_a l_l c fun t =>
 (∃ g h i : Int, cellsAt d (t.add (c.toNat * 3)) 0 [(Iv g), (Iv h), (Iv i)] /\
 (kAlloc d #[Iv (0 : Int), Iv (0 : Int), Iv (0 : Int)] Ty_api_Range fun b m =>
 (sxStore m ⟨b, 0, none⟩ 0 [(Iv g), (Iv h), (Iv i)] fun n =>
 (kDrew n fun a =>
 (kLd a ⟨b, 1, none⟩ .i64 fun o =>
 (bsplit (decide (o < (0 : Int)))
 (R (.bool false) a)
 ((kLd a ⟨b, 1, none⟩ .i64 fun p =>
 (kLd a ⟨b, 2, none⟩ .i64 fun q =>
 (bsplit (decide (p >= q))
 (R (.bool false) a)
 ((bsplit (decide (c > (0 : Int)))
 ((kLd a ⟨b, 1, none⟩ .i64 fun r =>
 (kW .i64 (c - (1 : Int)) fun j =>
 (kIx l_a l_l j fun l =>
 (kLd a ((l.add (j.toNat * 3)).add 2) .i64 fun s =>
 (bsplit (decide (r <= s))
 (R (.bool false) a)
 ((kW .i64 (c + (1 : Int)) fun k =>
 ((e k).2 a /\ (e k).1 < (e c).1)))))))))
 ((kW .i64 (c + (1 : Int)) fun f =>
 ((e f).2 a /\ (e f).1 < (e c).1)))))))))))))))))
 (R (.bool true) d))))
theorem F_segment_Normal_ok {R : EP} (l_a : OA) (l_l l_c : Nat) (w : World) (h : F_segment_Normal l_a l_l l_c w fun v w' => R (.returned v) w') : CP N_segment_Normal #[(.slice l_a l_l l_c)] w R :=
 calls_of (k := TTk) (h := h_segment_Normal) (f := 176) follows_ok Tryz.func176 (Eq.mpr (by kernel_rfl) h)

def h_slices_Concat_Sapi_Range_api_Range : H := (sr (sr (.seq (sr (.block (.loop [(3, .p (.int .i64)), (11, .p (.int .i64))] ([3, 5] ++ rg 11 12) (sr (.seq (.cond .leaf .leaf) (.seq (.block (sr (sr (sr (.cond .reg .leaf))))) .reg)))))) (sr (.seq (sr (.block (.loop [(6, .p .slice), (27, .p (.int .i64))] ([6, 8] ++ rg 27 8) (sr (.seq (.cond .leaf .leaf) (.seq (.block (sr .reg)) .reg)))))) sl)))))
def F_slices_Concat_Sapi_Range_api_Range (slices_a : OA) (slices_l _ : Nat) (w : World) (R : Value -> WP) : Prop :=
 (∃ t : Int -> Int -> Nat × (WP), (t (0 : Int) (0 : Int)).2 w /\
 (∀ (_ : Env) (d : Int) (s : Int) (j : World), (t d s).2 j ->
 (bsplit (decide (s < (slices_l : Int)))
 ((kIx slices_a slices_l s fun ac =>
 (kLdS j (ac.add (s.toNat * 1)) fun _ x _ =>
 (kW .i64 (d + (x : Int)) fun o =>
 (bsplit (decide (o < (0 : Int)))
 (False)
 ((kW .i64 (s + (1 : Int)) fun u =>
 ((t o u).2 j /\ (t o u).1 < (t d s).1))))))))
 ((CP N_slices_Grow_Sapi_Range_api_Range #[(.slice none 0 0), (Iv d)] j fun z aa =>
 ∃ l : OA, ∃ n m : Nat, z = .returned (.slice l n m) /\
 (∃ f : OA -> Nat -> Nat -> Int -> Nat × (WP), (f l n m (0 : Int)).2 aa /\
 (∀ (_ : Env) (a : OA) (c : Nat) (b : Nat) (e : Int) (k : World), (f a c b e).2 k ->
 (bsplit (decide (e < (slices_l : Int)))
 ((kIx slices_a slices_l e fun y =>
 (kLdS k (y.add (e.toNat * 1)) fun p r q =>
 (AppP Tryz.prog #[Ty_S_api_Range, Ty_S_api_Range] Ty_S_api_Range #[(.slice a c b), (.slice p r q)] k fun g i h ab =>
 (kW .i64 (e + (1 : Int)) fun v =>
 ((f g i h v).2 ab /\ (f g i h v).1 < (f a c b e).1))))))
 (R (.slice a c b) k)))))))))
theorem F_slices_Concat_Sapi_Range_api_Range_ok {R : EP} (slices_a : OA) (slices_l slices_c : Nat) (w : World) (h : F_slices_Concat_Sapi_Range_api_Range slices_a slices_l slices_c w fun v w' => R (.returned v) w') : CP N_slices_Concat_Sapi_Range_api_Range #[(.slice slices_a slices_l slices_c)] w R :=
 calls_of (k := TTk) (h := h_slices_Concat_Sapi_Range_api_Range) (f := 177) follows_ok Tryz.func177 (Eq.mpr (by kernel_rfl) h)

def h_sender_side_unit : H := (sr (.seq (.cut [(43, .p .bool)] (rg 5 39) (.draw .blk (po 0 3 (ko 3 1 (so 4 5 (ko 9 1 (so 10 8 (ko 18 1 (so 19 11 (ko 30 1 (so 31 5 (ko 36 1 (so 37 2 .nil)))))))))))) (.cond sl .leaf)) sl))
def F_sender_side_unit (s_b s_o : Nat) (u_0 : Int) (u_1_a : OA) (u_1_l u_1_c : Nat) (u_2 u_3 : Int) (u_4_a : OA) (u_4_l u_4_c : Nat) (w : World) (R : Value -> WP) : Prop :=
 (kAlloc w #[(Iv u_0), (.slice u_1_a u_1_l u_1_c), (Iv u_2), (Iv u_3), (.slice u_4_a u_4_l u_4_c)] Ty_api_Unit fun b af =>
 (∃ p : Bool -> WP,
 (∀ (_ : Env) (ac : Bool) (d : World), p ac d ->
 (bsplit ac
 (R (.bool false) d)
 ((kLdS d ⟨b, 4, none⟩ fun j o l =>
 (CP N_slices_ContainsFunc_Sapi_Range_api_Range #[(.slice j o l), (.func (.func N_sender_side_unit_1) #[] #[(.pointer (some ⟨b, 0, none⟩))])] d fun u ag =>
 ∃ aa : Bool, u = .returned (.bool aa) /\
 R (.bool (!aa)) ag))))) /\
 (kDrew af fun a =>
 (∃ c : Nat -> Prop,
 (kLd a ⟨b, 0, none⟩ .i64 fun al =>
 (CP N_sender_side_number #[(.pointer (some ⟨s_b, s_o, none⟩)), (Iv al)] a fun ae e =>
 ∃ ak : Bool, ae = .returned (.bool ak) /\
 (KeepsB c a e /\ (bsplit (!ak)
 (p true e)
 ((c b /\
 (kLdS a ⟨b, 1, none⟩ fun _ ad _ =>
 (CP N_sender_between #[(Iv (ad : Int)), (Iv (1 : Int)), (Iv (2054 : Int))] e fun q f =>
 ∃ v : Bool, q = .returned (.bool v) /\
 (KeepsB c a f /\ (bsplit (!v)
 (p true f)
 ((c b /\
 (kLd a ⟨b, 2, none⟩ .i64 fun ah =>
 (c b /\
 (kLdS a ⟨b, 1, none⟩ fun _ m _ =>
 (CP N_sender_between #[(Iv ah), (Iv (0 : Int)), (Iv (m : Int))] f fun r g =>
 ∃ x : Bool, r = .returned (.bool x) /\
 (KeepsB c a g /\ (bsplit (!x)
 (p true g)
 ((c b /\
 (kLd a ⟨b, 3, none⟩ .i64 fun ai =>
 (c s_b /\
 (kLd a ⟨s_b, s_o + 5, none⟩ .i64 fun aj =>
 (CP N_sender_between #[(Iv ai), (Iv (0 : Int)), (Iv aj)] g fun s h =>
 ∃ y : Bool, s = .returned (.bool y) /\
 (KeepsB c a h /\ (bsplit (!y)
 (p true h)
 ((c b /\
 (kLdS a ⟨b, 4, none⟩ fun i n k =>
 (CP N_segment_Normal #[(.slice i n k)] h fun t ab =>
 ∃ z : Bool, t = .returned (.bool z) /\
 (KeepsB c a ab /\ p (!z) ab)))))))))))))))))))))))))))))))))))
theorem F_sender_side_unit_ok {R : EP} (s_b s_o : Nat) (u_0 : Int) (u_1_a : OA) (u_1_l u_1_c : Nat) (u_2 u_3 : Int) (u_4_a : OA) (u_4_l u_4_c : Nat) (w : World) (h : F_sender_side_unit s_b s_o u_0 u_1_a u_1_l u_1_c u_2 u_3 u_4_a u_4_l u_4_c w fun v w' => R (.returned v) w') : CP N_sender_side_unit #[(.pointer (some ⟨s_b, s_o, none⟩)), (.agg #[Iv u_0, .slice u_1_a u_1_l u_1_c, Iv u_2, Iv u_3, .slice u_4_a u_4_l u_4_c])] w R :=
 calls_of (k := TTk) (h := h_sender_side_unit) (f := 178) follows_ok Tryz.func178 (Eq.mpr (by kernel_rfl) h)

def h_slices_ContainsFunc_Sapi_Unit_api_Unit : H := (sr sl)
def F_slices_ContainsFunc_Sapi_Unit_api_Unit (s_a : OA) (s_l s_c f_g : Nat) (f_f : Array Value) (f_c : Array Value) (w : World) (R : Value -> WP) : Prop :=
 (CP N_slices_IndexFunc_Sapi_Unit_api_Unit #[(.slice s_a s_l s_c), (.func (.func f_g) f_f f_c)] w fun a b =>
 ∃ c : Int, a = .returned (Iv c) /\
 (kLet (decide (c >= (0 : Int))) fun d =>
 R (.bool d) b))
theorem F_slices_ContainsFunc_Sapi_Unit_api_Unit_ok {R : EP} (s_a : OA) (s_l s_c f_g : Nat) (f_f : Array Value) (f_c : Array Value) (w : World) (h : F_slices_ContainsFunc_Sapi_Unit_api_Unit s_a s_l s_c f_g f_f f_c w fun v w' => R (.returned v) w') : CP N_slices_ContainsFunc_Sapi_Unit_api_Unit #[(.slice s_a s_l s_c), (.func (.func f_g) f_f f_c)] w R :=
 calls_of (k := TTk) (h := h_slices_ContainsFunc_Sapi_Unit_api_Unit) (f := 179) follows_ok Tryz.func179 (Eq.mpr (by kernel_rfl) h)

def h_sender_side_asked_1 : H := (sr (.seq (.draw .no (so 0 14 .nil)) .leaf))
def F_sender_side_asked_1 (u_0 : Int) (u_1_a : OA) (u_1_l u_1_c : Nat) (u_2 u_3 : Int) (u_4_a : OA) (u_4_l u_4_c cap0_b cap0_o : Nat) (w : World) (R : Value -> WP) : Prop :=
 (kAlloc w #[(Iv u_0), (.slice u_1_a u_1_l u_1_c), (Iv u_2), (Iv u_3), (.slice u_4_a u_4_l u_4_c)] Ty_api_Unit fun h c =>
 (kDrew c fun a =>
 (kLd a ⟨h, 0, none⟩ .i64 fun i =>
 (∃ b : OA, a.cell? ⟨cap0_b, cap0_o, none⟩ = some (.pointer b) /\
 (kNil b fun d =>
 (kLd a (d.add 10) .i64 fun e =>
 (bsplit (decide (i = e))
 ((kLd a ⟨h, 2, none⟩ .i64 fun f =>
 (kLet (decide (f > (0 : Int))) fun g =>
 R (.bool g) a)))
 (R (.bool false) a))))))))
theorem F_sender_side_asked_1_ok {R : EP} (u_0 : Int) (u_1_a : OA) (u_1_l u_1_c : Nat) (u_2 u_3 : Int) (u_4_a : OA) (u_4_l u_4_c cap0_b cap0_o : Nat) (w : World) (h : F_sender_side_asked_1 u_0 u_1_a u_1_l u_1_c u_2 u_3 u_4_a u_4_l u_4_c cap0_b cap0_o w fun v w' => R (.returned v) w') : CP N_sender_side_asked_1 #[(.agg #[Iv u_0, .slice u_1_a u_1_l u_1_c, Iv u_2, Iv u_3, .slice u_4_a u_4_l u_4_c]), (.pointer (some ⟨cap0_b, cap0_o, none⟩))] w R :=
 calls_of (k := TTk) (h := h_sender_side_asked_1) (f := 180) follows_ok Tryz.func180 (Eq.mpr (by kernel_rfl) h)

def h_slices_IndexFunc_Sapi_Unit_api_Unit : H := (sr (.seq (sr (.block (.loop [(8, .p (.int .i64))] ([4, 5] ++ rg 8 11) (sr (.seq (.cond .leaf .leaf) (.seq (.block (sr sc)) .reg)))))) sl))
def F_slices_IndexFunc_Sapi_Unit_api_Unit (s_a : OA) (s_l _ f_g : Nat) (f_f : Array Value) (f_c : Array Value) (w : World) (R : Value -> WP) : Prop :=
 (∃ l : Int -> Nat × (WP), (l (0 : Int)).2 w /\
 (∀ (_ : Env) (k : Int) (g : World), (l k).2 g ->
 (bsplit (decide (k < (s_l : Int)))
 ((kIx s_a s_l k fun q =>
 (∃ h : Int, ∃ a : OA, ∃ c b : Nat, ∃ i j : Int, ∃ d : OA, ∃ f e : Nat, cellsAt g (q.add (k.toNat * 5)) 0 [(Iv h), (.slice a c b), (Iv i), (Iv j), (.slice d f e)] /\
 (okFn Tryz.prog f_g = true /\ CP f_g (f_f ++ #[(.agg #[Iv h, .slice a c b, Iv i, Iv j, .slice d f e])] ++ f_c) g fun o m =>
 ∃ p : Bool, o = .returned (.bool p) /\
 (bsplit p
 (R (Iv k) m)
 ((kW .i64 (k + (1 : Int)) fun n =>
 ((l n).2 m /\ (l n).1 < (l k).1))))))))
 (R (Iv (-1 : Int)) g))))
theorem F_slices_IndexFunc_Sapi_Unit_api_Unit_ok {R : EP} (s_a : OA) (s_l s_c f_g : Nat) (f_f : Array Value) (f_c : Array Value) (w : World) (h : F_slices_IndexFunc_Sapi_Unit_api_Unit s_a s_l s_c f_g f_f f_c w fun v w' => R (.returned v) w') : CP N_slices_IndexFunc_Sapi_Unit_api_Unit #[(.slice s_a s_l s_c), (.func (.func f_g) f_f f_c)] w R :=
 calls_of (k := TTk) (h := h_slices_IndexFunc_Sapi_Unit_api_Unit) (f := 181) follows_ok Tryz.func181 (Eq.mpr (by kernel_rfl) h)

def h_sender_side_left_1 : H := (sr sl)
def F_sender_side_left_1 (u_0 : Int) (u_1_a : OA) (u_1_l u_1_c : Nat) (u_2 u_3 : Int) (u_4_a : OA) (u_4_l u_4_c : Nat) (w : World) (R : Value -> WP) : Prop :=
 (kAlloc w #[(Iv u_0), (.slice u_1_a u_1_l u_1_c), (Iv u_2), (Iv u_3), (.slice u_4_a u_4_l u_4_c)] Ty_api_Unit fun c a =>
 (kLdS a ⟨c, 4, none⟩ fun _ b _ =>
 (kLet (decide ((b : Int) > (0 : Int))) fun d =>
 R (.bool d) a)))
theorem F_sender_side_left_1_ok {R : EP} (u_0 : Int) (u_1_a : OA) (u_1_l u_1_c : Nat) (u_2 u_3 : Int) (u_4_a : OA) (u_4_l u_4_c : Nat) (w : World) (h : F_sender_side_left_1 u_0 u_1_a u_1_l u_1_c u_2 u_3 u_4_a u_4_l u_4_c w fun v w' => R (.returned v) w') : CP N_sender_side_left_1 #[(.agg #[Iv u_0, .slice u_1_a u_1_l u_1_c, Iv u_2, Iv u_3, .slice u_4_a u_4_l u_4_c])] w R :=
 calls_of (k := TTk) (h := h_sender_side_left_1) (f := 182) follows_ok Tryz.func182 (Eq.mpr (by kernel_rfl) h)

def h_sender_side_left_2 : H := (sr sl)
def F_sender_side_left_2 (u_0 : Int) (u_1_a : OA) (u_1_l u_1_c : Nat) (u_2 u_3 : Int) (u_4_a : OA) (u_4_l u_4_c : Nat) (w : World) (R : Value -> WP) : Prop :=
 (kAlloc w #[(Iv u_0), (.slice u_1_a u_1_l u_1_c), (Iv u_2), (Iv u_3), (.slice u_4_a u_4_l u_4_c)] Ty_api_Unit fun n j =>
 (∃ g : Int, ∃ a : OA, ∃ c b : Nat, ∃ h i : Int, ∃ d : OA, ∃ f e : Nat, cellsAt j ⟨n, 0, none⟩ 0 [(Iv g), (.slice a c b), (Iv h), (Iv i), (.slice d f e)] /\
 (CP N_sender_whole #[(.agg #[Iv g, .slice a c b, Iv h, Iv i, .slice d f e])] j fun k l =>
 ∃ m : Bool, k = .returned (.bool m) /\
 R (.bool (!m)) l)))
theorem F_sender_side_left_2_ok {R : EP} (u_0 : Int) (u_1_a : OA) (u_1_l u_1_c : Nat) (u_2 u_3 : Int) (u_4_a : OA) (u_4_l u_4_c : Nat) (w : World) (h : F_sender_side_left_2 u_0 u_1_a u_1_l u_1_c u_2 u_3 u_4_a u_4_l u_4_c w fun v w' => R (.returned v) w') : CP N_sender_side_left_2 #[(.agg #[Iv u_0, .slice u_1_a u_1_l u_1_c, Iv u_2, Iv u_3, .slice u_4_a u_4_l u_4_c])] w R :=
 calls_of (k := TTk) (h := h_sender_side_left_2) (f := 183) follows_ok Tryz.func183 (Eq.mpr (by kernel_rfl) h)

def h_receiver_side_missing : H := (sr (sr (.seq sc (sr (.seq sc (sr (.cut [(7, .p (.int .i64))] [7, 34, 35] (sr (.cond .reg .leaf)) (sr sl))))))))
def F_receiver_side_missing (s_b s_o : Nat) (n : Int) (w : World) (R : Value -> WP) : Prop :=
 (kAlloc w #[(Iv n)] Ty_int fun ag z =>
 (kLdS z ⟨s_b, s_o + 13, none⟩ fun ab ad ac =>
 (CP N_slices_IndexFunc_Sapi_Partial_api_Partial #[(.slice ab ad ac), (.func (.func N_receiver_side_missing_1) #[] #[(.pointer (some ⟨ag, 0, none⟩))])] z fun aj h =>
 ∃ ae : Int, aj = .returned (Iv ae) /\
 (bsplit (decide (ae < (0 : Int)))
 ((kLd h ⟨ag, 0, none⟩ .i64 fun aq =>
 (kAlloc h #[(Iv aq), (Iv (0 : Int)), (Iv (0 : Int))] Ty_api_Range fun ah al =>
 R (.slice (some ⟨ah, 0, none⟩) 1 1) al)))
 ((kLdS h ⟨s_b, s_o + 13, none⟩ fun s v _ =>
 (kIx s v ae fun ai =>
 (∃ p : Int, ∃ q : Bool, ∃ r : Int, ∃ b : OA, ∃ d c : Nat, ∃ e : OA, ∃ g f : Nat, cellsAt h (ai.add (ae.toNat * 5)) 0 [(Iv p), (.bool q), (Iv r), (.slice b d c), (.slice e g f)] /\
 (kAlloc h #[Iv (0 : Int), .bool false, Iv (0 : Int), .slice none 0 0, .slice none 0 0] Ty_api_Partial fun j am =>
 (sxStore am ⟨j, 0, none⟩ 0 [(Iv p), (.bool q), (Iv r), (.slice b d c), (.slice e g f)] fun i =>
 (kLdB i ⟨j, 1, none⟩ fun ao =>
 (bsplit ao
 (R (.slice none 0 0) i)
 ((kLd i ⟨j, 2, none⟩ .i64 fun aa =>
 (∃ af : Int -> WP,
 (∀ (_ : Env) (a : Int) (k : World), af a k ->
 (kLdS k ⟨j, 4, none⟩ fun t x u =>
 (kLd k ⟨ag, 0, none⟩ .i64 fun ap =>
 (CP N_segment_Gaps #[(.slice t x u), (Iv ap), (Iv a)] k fun y an =>
 ∃ l : OA, ∃ o m : Nat, ∃ ak : Int, y = .returned (.tuple #[(.slice l o m), (Iv ak)]) /\
 R (.slice l o m) an)))) /\
 (bsplit (decide (aa = (-1 : Int)))
 (af (65535 : Int) i)
 (af aa i)))))))))))))))))
theorem F_receiver_side_missing_ok {R : EP} (s_b s_o : Nat) (n : Int) (w : World) (h : F_receiver_side_missing s_b s_o n w fun v w' => R (.returned v) w') : CP N_receiver_side_missing #[(.pointer (some ⟨s_b, s_o, none⟩)), (Iv n)] w R :=
 calls_of (k := TTk) (h := h_receiver_side_missing) (f := 184) follows_ok Tryz.func184 (Eq.mpr (by kernel_rfl) h)

def h_status_size : H := (sr (.seq sc sl))
def F_status_size (r_0 r_1 r_2 : Int) (w : World) (R : Value -> WP) : Prop :=
 (kAlloc w #[(Iv r_0), (Iv r_1), (Iv r_2)] Ty_api_Range fun h d =>
 (∃ a b c : Int, cellsAt d ⟨h, 0, none⟩ 0 [(Iv a), (Iv b), (Iv c)] /\
 (CP N_status_Whole #[(.agg #[Iv a, Iv b, Iv c])] d fun f e =>
 ∃ g : Bool, f = .returned (.bool g) /\
 (bsplit g
 (R (Iv (2 : Int)) e)
 (R (Iv (6 : Int)) e)))))
theorem F_status_size_ok {R : EP} (r_0 r_1 r_2 : Int) (w : World) (h : F_status_size r_0 r_1 r_2 w fun v w' => R (.returned v) w') : CP N_status_size #[(.agg #[Iv r_0, Iv r_1, Iv r_2])] w R :=
 calls_of (k := TTk) (h := h_status_size) (f := 185) follows_ok Tryz.func185 (Eq.mpr (by kernel_rfl) h)

end Go.Proofs.YtmbppohkadmjgaaGreat
