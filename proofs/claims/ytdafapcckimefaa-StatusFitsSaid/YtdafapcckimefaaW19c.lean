import Derived.Test.YtdafapcckimefaaW19b
import Derived.Test.YtdafapcckimefaaLp
namespace Go.Sx
theorem bOr_u8 {x y : Int} (k : Nat) (m : Int) (hx : x = 2 ^ k * m) (hm : 0 ≤ m) (hy : 0 ≤ y ∧ y < 2 ^ k) (hr : x + y ≤ 255) : bOr .u8 x y = x + y := by
  obtain ⟨m, rfl⟩ := natOf hm
  obtain ⟨y, rfl⟩ := natOf hy.1
  rw [pow_cast] at hx hy
  have hx2 : x = ((2 ^ k * m : Nat) : Int) := by rw [hx]; simp
  have hy2 : y < 2 ^ k := by omega
  subst hx2
  rw [bOr_nat .u8 _ _ (by show _ < 2 ^ 8; omega) (by show _ < 2 ^ 8; omega), ← Nat.two_pow_add_eq_or_of_lt hy2, IntWalk.u8_in _ (by omega)]
  omega
theorem putN2 (v : Int) : putN 2 v = be16 v := by simp [putN, be16]
theorem encB_len (r : Rg) : (encB r).length ≤ 6 := by unfold encB; split <;> simp [be16]
theorem flat_encB_len (L : List Rg) : (L.flatMap encB).length ≤ 6 * L.length := by
  induction L with
  | nil => simp
  | cons r L ih => have := encB_len r; simp only [List.flatMap_cons, List.length_append, List.length_cons]; omega
theorem bytes_be16 (v : Int) : Bytes (be16 v) := fun i hi => by
  rcases i with _ | _ | i
  · simp only [be16, List.getElem_cons_zero]; omega
  · simp only [be16, List.getElem_cons_succ, List.getElem_cons_zero]; omega
  · simp [be16] at hi; omega
theorem bytes_append {l m : List Int} (h : Bytes l) (k : Bytes m) : Bytes (l ++ m) := fun i hi => by
  by_cases hlt : i < l.length
  · rw [List.getElem_append_left hlt]; exact h i hlt
  · rw [List.getElem_append_right (by omega)]; exact k _ (by simp at hi; omega)
theorem bytes_encB (r : Rg) : Bytes (encB r) := by
  unfold encB
  split
  · exact bytes_be16 _
  · exact bytes_append (bytes_be16 _) (bytes_append (bytes_be16 _) (bytes_be16 _))
theorem bytes_flatB (L : List Rg) : Bytes (L.flatMap encB) := by
  induction L with
  | nil => exact fun i hi => by simp at hi
  | cons r L ih => rw [List.flatMap_cons]; exact bytes_append (bytes_encB r) ih
theorem bytes_S (s : Stt) : Bytes (bytesS s) := by
  refine bytes_append (bytes_be16 _) fun i hi => ?_
  cases i with
  | zero => simp only [List.getElem_cons_zero]; omega
  | succ i => simp only [List.getElem_cons_succ]; exact bytes_flatB _ i (by simpa using hi)
theorem bytesS_len (s : Stt) : (bytesS s).length ≤ 3 + 6 * s.miss.length := by
  have := flat_encB_len s.miss
  simp only [bytesS, List.length_append, List.length_cons, be16, List.length_nil]; omega
theorem flat_take (l : List Rg) (k : Nat) (h : k < l.length) : (l.take (k + 1)).flatMap encB = (l.take k).flatMap encB ++ encB l[k] := by
  rw [List.take_add_one, List.getElem?_eq_getElem h, List.flatMap_append]; simp
theorem chain_own {b u : Int} : ∀ {l : List Rg} {p : Option Rg}, chainB b u p l = true → ∀ r ∈ l, ownR b u r
  | [], _, _, r, hr => by simp at hr
  | x :: l, p, h, r, hr => by
    simp only [chainB, Bool.and_eq_true, decide_eq_true_iff] at h
    rcases List.mem_cons.1 hr with rfl | hr
    · exact h.1.1
    · exact chain_own h.2 r hr
end Go.Sx
namespace Go.Proofs.Ytdafapcckimefaa
open Go.Sx Go.RowKit
def RetB (w : World) (bs : List Int) (er : Int) : Ending → World → Prop := fun e w' => ∃ a c, bs.length ≤ c ∧ e = .returned (.tuple #[.slice a bs.length c, .int .i64 er]) ∧ Fresh w w' fun w => SlR (IntC .u8) 1 w a bs
theorem RetB.nil {w w' : World} (b : Below w.heap.size w w') (er : Int) : RetB w [] er (.returned (.tuple #[.slice none 0 0, .int .i64 er])) w' :=
  ⟨none, 0, Nat.le_refl _, rfl, ((St.nil w).pass b).imp fun _ _ => .inl rfl⟩
theorem RetB.of {w w' : World} {R : List Res} {P : World → Prop} (H : St (fun _ => False) [] w w' R P) {i : Nat} {a : Option Addr} {c : Nat} {bs : List Int} (hi : R[i]? = some (.ints Ty_uint8 .u8 a c bs)) (er : Int) :
    RetB w bs er (.returned (.tuple #[.slice a bs.length c, .int .i64 er])) w' := ⟨a, c, H.capI hi, rfl, H.freshI hi⟩
section
variable {bits u : Int} {l_a : Option Addr} {l : List Rg} {l_c : Nat} {w : World}
theorem status_Encode_ct (hs : SlR (CE encR) 3 w l_a l) (hl : l.length ≤ 140737488355328) :
    Calls Try.prog N_status_Encode #[(.int .i64 bits), (.agg #[.int .i64 u, .slice l_a l.length l_c])] w (RetB w (encS bits ⟨u, l⟩).1 (encS bits ⟨u, l⟩).2) := by
  apply F_status_Encode_ok
  unfold F_status_Encode
  have H := St.nil w
  refine H.alloc ?_; clear H; intro b w1 H1
  refine ⟨_, _, _, _, H1.cells (i := 0) rfl, ?_⟩
  refine (status_Valid_ct (hs.belowE H1.below) hl).mono ?_ -- (.int .i64 bits), (.agg #[.int .i64 s_0, .slice s_1_a s_1_l s_1_c])
  rintro _ w2 ⟨rfl, hb2⟩; have H2 := H1.pass hb2; clear H1
  refine ⟨_, rfl, ?_⟩
  refine bsplit_nd (fun c2 => ?_) (fun c2 => ?_) --  (!r)
  · have e0 : encS bits ⟨u, l⟩ = ([], 1) := if_neg c2
    rw [e0]; exact .nil H2.below _ --! (.tuple #[(.slice none 0 0), (.int .i64 (1 : Int))])
  · have e0 : encS bits ⟨u, l⟩ = (bytesS ⟨u, l⟩, 0) := if_pos c2
    rw [e0]
    have hll : l.length ≤ 64 := c2.2.2.1
    have hu := c2.2.1
    have hp := pow_bits c2.1
    have hown := chain_own c2.2.2.2
    simp only at hu hown
    refine H2.ld (i := 0) rfl rfl ?_
    refine kFdiv ?_
    refine kWu8 ?_
    refine H2.ld (i := 0) rfl rfl ?_
    refine kWu8 ?_
    refine H2.ldS (i := 0) rfl rfl ?_
    refine kWu8 ?_
    refine H2.alloc ?_; clear H2; intro b1 w3 H3
    have H3 := H3.litI (i := 1) (k := .u8) (be16 u ++ [(l.length : Int) % 256]) rfl (by simp [be16, maxLen])
    refine H3.ldS (i := 0) rfl rfl ?_
    refine ⟨fun b_a b_l b_c x6 => ((l.length - x6).toNat, fun w4 => ∃ (k : Nat) (ys : List Int), x6 = k ∧ k ≤ l.length ∧ b_l = ys.length ∧ ys = be16 u ++ (l.length : Int) % 256 :: (l.take k).flatMap encB ∧ FreshR w w4 [.blk b Ty_api_Status [(.int .i64 u), (.slice l_a l.length l_c)], .ints Ty_uint8 .u8 b_a b_c ys]), ⟨0, be16 u ++ [(l.length : Int) % 256], rfl, by omega, rfl, by simp, H3⟩, ?_⟩ --! I (some ⟨b1, 0, none⟩) 3 3 (0 : Int)
    clear H3
    rintro _ b_a b_l b_c x6 w4 ⟨k, ys, rfl, hk, rfl, hys, H4⟩
    have hyl : ys.length ≤ 3 + 6 * k := by
      have := flat_encB_len (l.take k)
      rw [hys]; simp only [List.length_append, List.length_cons, be16, List.length_nil, List.length_take] at this ⊢; omega
    refine bsplit_dec (fun c1 => ?_) (fun c1 => ?_) --  (decide (x6 < (s_1_l : Int)))
    · have hlt : k < l.length := by omega
      have hsn := (hown l[k] (List.getElem_mem hlt)).1
      refine ixE (hs.belowE H4.below) k rfl hlt fun b2 r hr hb2 => ?_
      obtain rfl : l[k] = r := by rw [List.getElem?_eq_getElem hlt] at hr; injection hr
      have hnext := flat_take l k hlt
      obtain ⟨r, hr⟩ : ∃ r, r = l[k] := ⟨_, rfl⟩
      rw [← hr] at hsn hb2 hnext
      refine ⟨_, _, _, hb2, ?_⟩
      refine H4.alloc ?_; clear H4; intro b3 w5 H5
      refine H5.store (i := 2) rfl (by rfl) (by rfl) ?_; clear H5; intro w6 H6
      refine H6.ld (i := 2) rfl rfl ?_
      refine kFdiv ?_
      refine kWu8 ?_
      refine H6.ld (i := 2) rfl rfl ?_
      refine kW_i64 (by omega) ?_ -- x_01 * 2 ^ 4
      refine kWu8 ?_
      refine H6.alloc ?_; clear H6; intro b4 w7 H7
      refine H7.appIB (i := 1) (j := 3) rfl [r.sn / 2 ^ 4 % 256, r.sn * 2 ^ 4 % 256] rfl sl_Ty_S_uint8 rfl (by simp; omega) (by simp; omega) ?_; intro x_a2 x_c2 w8 H8 --! append (.slice b_a b_l b_c) (.slice (some ⟨b4, 0, none⟩) 2 2)
      refine ⟨_, _, _, H8.cells (i := 2) rfl, ?_⟩
      refine status_Whole_ct.mono ?_ -- (.agg #[.int .i64 x_01, .int .i64 x_1, .int .i64 x_2])
      rintro _ w9 ⟨rfl, hb9⟩; have H9 := H8.pass hb9; clear H8
      refine ⟨_, rfl, ?_⟩
      have ezl : (ys ++ [r.sn / 2 ^ 4 % 256, r.sn * 2 ^ 4 % 256]).length = ys.length + 2 := by simp
      refine bsplit_nd (fun c => ?_) (fun c => ?_) --  (!r1)
      · have hlen : 0 < (ys ++ [r.sn / 2 ^ 4 % 256, r.sn * 2 ^ 4 % 256]).length := by omega
        refine kW_i64 (by omega) ?_ -- (x_l2 : Int) - (1 : Int)
        obtain ⟨g, rfl, -, -⟩ := H9.rowSome (i := 1) rfl hlen
        have ej : ((ys ++ [r.sn / 2 ^ 4 % 256, r.sn * 2 ^ 4 % 256]).length : Int) - 1 = ((ys.length + 1 : Nat) : Int) := by omega
        rw [ej]
        refine kIx_at ⟨by omega, by omega⟩ ?_
        rw [add_mk, Nat.zero_add, Nat.mul_one, Int.toNat_natCast]
        have hlast : (ys ++ [r.sn / 2 ^ 4 % 256, r.sn * 2 ^ 4 % 256])[ys.length + 1]? = some (r.sn * 2 ^ 4 % 256) := by
          rw [List.getElem?_append_right (by omega)]; simp
        refine ⟨r.sn * 2 ^ 4 % 256, H9.cellRow (i := 1) rfl (by rw [List.getElem?_map, hlast]; rfl), ?_⟩ --! load
        refine kLet_intro fun x15 hx15 => ?_ --! bOr .u8 x14 (1 : Int)
        rw [bOr_u8 4 (r.sn % 16) (by omega) (by omega) (by decide) (by omega)] at hx15
        refine kIx_at ⟨by omega, by omega⟩ ?_
        rw [add_mk, Nat.zero_add]
        refine H9.setI (i := 1) rfl (by omega) fun w10 _ H10 => ?_
        have ese : (ys ++ [r.sn / 2 ^ 4 % 256, r.sn * 2 ^ 4 % 256]).set (ys.length + 1) x15 = ys ++ [r.sn / 2 ^ 4 % 256, x15] := by
          rw [List.set_append_right _ _ (by omega)]; simp
        rw [ese] at H10
        refine H10.ld (i := 2) rfl rfl ?_
        refine kFdiv ?_
        refine kWu8 ?_
        refine H10.ld (i := 2) rfl rfl ?_
        refine kWu8 ?_
        refine H10.ld (i := 2) rfl rfl ?_
        refine kFdiv ?_
        refine kWu8 ?_
        refine H10.ld (i := 2) rfl rfl ?_
        refine kWu8 ?_
        refine H10.alloc ?_; clear H10; intro b7 w11 H11
        have ez2 : (ys ++ [r.sn / 2 ^ 4 % 256, r.sn * 2 ^ 4 % 256]).length = (ys ++ [r.sn / 2 ^ 4 % 256, x15]).length := by simp
        rw [ez2]
        refine H11.appIB (i := 1) (j := 4) rfl [r.f / 2 ^ 8 % 256, r.f % 256, r.t / 2 ^ 8 % 256, r.t % 256] rfl sl_Ty_S_uint8 rfl (by simp; omega) (by simp; omega) ?_; intro x_a3 x_c3 w12 H12 --! append (.slice x_a2 x_l2 x_c2) (.slice (some ⟨b7, 0, none⟩) 4 4)
        refine kW_i64 (by omega) ?_ -- x6 + (1 : Int)
        refine ⟨⟨k + 1, _, by omega, by omega, rfl, ?_, H12.sub (fun i => i) (by rintro (_ | _ | _) r h <;> first | exact h | cases h) (fun _ _ _ _ h => h)⟩, by dsimp only; omega⟩ --! I x_a3 x_l3 x_c3 (x6 + (1 : Int))
        rw [hnext, encB, if_neg c, hys, hx15]
        simp only [be16, List.append_assoc, List.cons_append, List.nil_append]
        have q1 : (16 * r.sn + 1) / 256 % 256 = r.sn / 2 ^ 4 % 256 := by omega
        have q2 : (16 * r.sn + 1) % 256 = r.sn * 2 ^ 4 % 256 + 1 := by omega
        rw [q1, q2]
        rfl
      · refine kW_i64 (by omega) ?_ -- x6 + (1 : Int)
        refine ⟨⟨k + 1, _, by omega, by omega, rfl, ?_, H9.sub (fun i => i) (by rintro (_ | _ | _) r h <;> first | exact h | cases h) (fun _ _ _ _ h => h)⟩, by dsimp only; omega⟩ --! I x_a2 x_l2 x_c2 (x6 + (1 : Int))
        rw [hnext, encB, if_pos c, hys]
        simp only [be16, List.append_assoc, List.cons_append, List.nil_append]
        have q1 : 16 * r.sn / 256 % 256 = r.sn / 2 ^ 4 % 256 := by omega
        have q2 : 16 * r.sn % 256 = r.sn * 2 ^ 4 % 256 := by omega
        rw [q1, q2]
    · obtain rfl : k = l.length := by omega
      rw [List.take_length] at hys
      obtain rfl : ys = bytesS ⟨u, l⟩ := hys
      exact .of H4 (i := 1) rfl 0 --! (.tuple #[(.slice b_a b_l b_c), (.int .i64 (0 : Int))])
theorem ref19_Encode_ct (hs : SlR (CE encR) 3 w l_a l) (hl : l.length ≤ 140737488355328) :
    Calls Try.prog N_ref19_Encode #[(.int .i64 bits), (.agg #[.int .i64 u, .slice l_a l.length l_c])] w (RetB w (encS bits ⟨u, l⟩).1 (encS bits ⟨u, l⟩).2) := by
  apply F_ref19_Encode_ok
  unfold F_ref19_Encode
  have H := St.nil w
  refine H.alloc ?_; clear H; intro b w1 H1
  refine ⟨_, _, _, _, H1.cells (i := 0) rfl, ?_⟩
  refine (ref19_Valid_ct (hs.belowE H1.below) hl).mono ?_ -- (.int .i64 bits), (.agg #[.int .i64 s_0, .slice s_1_a s_1_l s_1_c])
  rintro _ w2 ⟨rfl, hb2⟩; have H2 := H1.pass hb2; clear H1
  refine ⟨_, rfl, ?_⟩
  refine bsplit_nd (fun c2 => ?_) (fun c2 => ?_) --  (!r)
  · have e0 : encS bits ⟨u, l⟩ = ([], 1) := if_neg c2
    rw [e0]; exact .nil H2.below _ --! (.tuple #[(.slice none 0 0), (.int .i64 (1 : Int))])
  have e0 : encS bits ⟨u, l⟩ = (bytesS ⟨u, l⟩, 0) := if_pos c2
  rw [e0]
  have hll : l.length ≤ 64 := c2.2.2.1
  have hu := c2.2.1
  have hp := pow_bits c2.1
  have hown := chain_own c2.2.2.2
  simp only at hu hown
  refine ⟨fun b_a b_l b_c w10 => b_l = (be16 u ++ [(l.length : Int) % 256]).length ∧ FreshR w w10 [.blk b Ty_api_Status [(.int .i64 u), (.slice l_a l.length l_c)], .ints Ty_uint8 .u8 b_a b_c (be16 u ++ [(l.length : Int) % 256])], ?_, ?_⟩ --!
  · rintro _ b_a b_l b_c w10 ⟨rfl, H10⟩
    refine ⟨fun b_a b_l b_c x6 => ((l.length - x6).toNat, fun w4 => ∃ (k : Nat) (ys : List Int), x6 = k ∧ k ≤ l.length ∧ b_l = ys.length ∧ ys = be16 u ++ (l.length : Int) % 256 :: (l.take k).flatMap encB ∧ FreshR w w4 [.blk b Ty_api_Status [(.int .i64 u), (.slice l_a l.length l_c)], .ints Ty_uint8 .u8 b_a b_c ys]), ⟨0, be16 u ++ [(l.length : Int) % 256], rfl, by omega, rfl, by simp, H10⟩, ?_⟩ --! I b_a b_l b_c (0 : Int)
    clear H10
    rintro _ b_a1 b_l1 b_c1 i w11 ⟨k, ys, rfl, hk, rfl, hys, H11⟩
    have hyl : ys.length ≤ 3 + 6 * k := by
      have := flat_encB_len (l.take k)
      rw [hys]; simp only [List.length_append, List.length_cons, be16, List.length_nil, List.length_take] at this ⊢; omega
    refine H11.ldS (i := 0) rfl rfl ?_
    refine bsplit_dec (fun c1 => ?_) (fun c1 => ?_) --  (decide (i < (s_1_l : Int)))
    · have hlt : k < l.length := by omega
      have hsn := (hown l[k] (List.getElem_mem hlt)).1
      refine H11.ldS (i := 0) rfl rfl ?_
      refine ixE (hs.belowE H11.below) k rfl hlt fun b3 r hr hb3 => ?_
      obtain rfl : l[k] = r := by rw [List.getElem?_eq_getElem hlt] at hr; injection hr
      have hnext := flat_take l k hlt
      obtain ⟨r, hr⟩ : ∃ r, r = l[k] := ⟨_, rfl⟩
      rw [← hr] at hsn hb3 hnext
      refine ⟨_, _, _, hb3, ?_⟩
      refine H11.alloc ?_; clear H11; intro b4 w12 H12
      refine H12.store (i := 2) rfl (by rfl) (by rfl) ?_; clear H12; intro w13 H13
      refine ⟨_, _, _, H13.cells (i := 2) rfl, ?_⟩
      refine ref19_size_ct.mono ?_ -- (.agg #[.int .i64 x_01, .int .i64 x_1, .int .i64 x_2])
      rintro _ w14 ⟨rfl, hb14⟩; have H14 := H13.pass hb14; clear H13
      refine ⟨_, rfl, ?_⟩
      have hsz : szR r = 2 ↔ whole r := by unfold szR; split <;> simp_all
      refine bsplit_dec (fun c => ?_) (fun c => ?_) --  (decide (r1 = (2 : Int)))
      · have c := hsz.1 c
        refine H14.ld (i := 2) rfl rfl ?_
        refine kW_i64 (by omega) ?_ -- (16 : Int) * x_01
        refine dPut H14 (i := 1) rfl 2 (by omega) (by omega) fun ra rc w15 _ H15 => ?_
        refine kW_i64 (by omega) ?_ -- i + (1 : Int)
        refine ⟨⟨k + 1, _, by omega, by omega, rfl, ?_, H15.sub (fun i => i) (by rintro (_ | _ | _) r h <;> first | exact h | cases h) (fun _ _ _ _ h => h)⟩, by dsimp only; omega⟩ --! I r_a2 r_l2 r_c2 (i + (1 : Int))
        rw [hnext, encB, if_pos c, hys, putN2]
        simp
      · have c : ¬ whole r := fun h => c (hsz.2 h)
        refine H14.drew ?_; clear H14; intro w16 H16
        refine ⟨fun x => x = b4, ?_⟩
        refine H16.ld (i := 2) rfl rfl ?_
        refine kW_i64 (by omega) ?_ -- (16 : Int) * x_01
        refine kW_i64 (by omega) ?_ -- ((16 : Int) * x_01) + (1 : Int)
        refine ⟨rfl, ?_⟩
        refine H16.ld (i := 2) rfl rfl ?_
        refine ⟨rfl, ?_⟩
        refine H16.ld (i := 2) rfl rfl ?_
        refine dPut H16 (i := 1) rfl 2 (by omega) (by omega) fun ra rc w17 _ H17 => ?_
        refine ⟨keepsBlk H16 H17 (i := 2) (j := 2) rfl rfl, ?_⟩
        refine dPut H17 (i := 1) rfl 2 (by omega) (by simp only [List.length_append, putN_len]; omega) fun ra1 rc1 w18 _ H18 => ?_
        refine ⟨keepsBlk H16 H18 (i := 2) (j := 2) rfl rfl, ?_⟩
        refine dPut H18 (i := 1) rfl 2 (by omega) (by simp only [List.length_append, putN_len]; omega) fun ra2 rc2 w19 _ H19 => ?_
        refine ⟨keepsBlk H16 H19 (i := 2) (j := 2) rfl rfl, ?_⟩
        refine kW_i64 (by omega) ?_ -- i + (1 : Int)
        refine ⟨⟨k + 1, _, by omega, by omega, rfl, ?_, H19.sub (fun i => i) (by rintro (_ | _ | _) r h <;> first | exact h | cases h) (fun _ _ _ _ h => h)⟩, by dsimp only; omega⟩ --! I r_a5 r_l5 r_c5 (i + (1 : Int))
        rw [hnext, encB, if_neg c, hys, putN2, putN2, putN2]
        simp
    · obtain rfl : k = l.length := by omega
      rw [List.take_length] at hys
      obtain rfl : ys = bytesS ⟨u, l⟩ := hys
      exact .of H11 (i := 1) rfl 0 --! (.tuple #[(.slice b_a1 b_l1 b_c1), (.int .i64 (0 : Int))])
  · refine H2.drew ?_; clear H2; intro w3 H3
    refine ⟨fun x => x = b, ?_⟩
    refine ⟨rfl, ?_⟩
    refine H3.ld (i := 0) rfl rfl ?_
    refine ⟨rfl, ?_⟩
    refine H3.ldS (i := 0) rfl rfl ?_
    refine kWu8 ?_
    have H3 := H3.nilI Ty_uint8 .u8
    refine ⟨?_, ?_, trivial⟩ --! fork
    · refine dPut H3 (i := 1) (ys := []) rfl 2 (by omega) (by simp) fun ra rc w4 _ H4 => ?_
      simp only [List.nil_append, putN2] at H4 ⊢
      refine ⟨keepsBlk H3 H4 (i := 0) (j := 0) rfl rfl, ?_⟩
      refine H4.alloc ?_; intro b1 w5 H5
      refine ⟨keepsBlk H3 H5 (i := 0) (j := 0) rfl rfl, ?_⟩
      refine H5.appIB (i := 1) (j := 2) rfl [(l.length : Int) % 256] rfl sl_Ty_S_uint8 rfl (by simp [be16]) (by simp [be16]) ?_; intro x_a1 x_c1 w6 H6 --! append
      refine ⟨keepsBlk H3 H6 (i := 0) (j := 0) rfl rfl, ?_⟩ --!
      exact ⟨rfl, H6.dropLast⟩ --! J x_a1 x_l1 x_c1
    · refine H3.alloc ?_; intro b2 w7 H7
      refine ⟨keepsBlk H3 H7 (i := 0) (j := 0) rfl rfl, ?_⟩
      refine dPut H7 (i := 1) (ys := []) rfl 2 (by omega) (by simp) fun ra rc w8 _ H8 => ?_
      simp only [List.nil_append, putN2] at H8 ⊢
      refine ⟨keepsBlk H3 H8 (i := 0) (j := 0) rfl rfl, ?_⟩
      refine H8.appIB (i := 1) (j := 2) rfl [(l.length : Int) % 256] rfl sl_Ty_S_uint8 rfl (by simp [be16]) (by simp [be16]) ?_; intro x_a2 x_c2 w9 H9 --! append
      refine ⟨keepsBlk H3 H9 (i := 0) (j := 0) rfl rfl, ?_⟩ --!
      exact ⟨rfl, H9.dropLast⟩ --! J x_a2 x_l2 x_c2
end
end Go.Proofs.Ytdafapcckimefaa
