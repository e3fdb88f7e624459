import Derived.Test.YtjmjdjpbgjjhmaaW24k
import Derived.Test.YtjmjdjpbgjjhmaaOpw
namespace Go.Proofs.Ytjmjdjpbgjjhmaa
open Go.Sx Go.RowKit

/-- sections as an argument holds them -/
def Sm (l : List Sec) : Prop := l.length ≤ 140737488355328 ∧ ∀ s ∈ l, s.data.length ≤ 140737488355328
theorem used_le2 {l : List Sec} (h : ∀ s ∈ l, s.data.length ≤ 140737488355328) : usedS l ≤ 140737488355330 * l.length := by
  induction l with
  | nil => simp [usedS]
  | cons s l ih =>
    have := ih fun t ht => h t (by simp [ht])
    have := h s (by simp)
    simp only [usedS, List.length_cons]; omega
theorem Sm.small {l : List Sec} (h : Sm l) (h32 : l.length ≤ 32) : Small l := ⟨h.1, by have := used_le2 h.2; omega⟩
theorem wrap_add (a b : Int) : IntKind.i64.wrap (IntKind.i64.wrap a + b) = IntKind.i64.wrap (a + b) := by
  unfold IntKind.wrap
  simp only [IntKind.signed, IntKind.bits]
  simp
  omega
section
variable {l_a : Option Addr} {l : List Sec} {l_c : Nat} {room : Int} {w : World}
theorem block_Check_raw (hs : SecR w l_a l) (hl : Sm l) :
    Calls Try.prog N_block_Check #[(.slice l_a l.length l_c), (.int .i64 room)] w fun e w' => e = .returned (.int .i64 (chkS l room)) ∧ Below w.heap.size w w' := by
  by_cases h32 : l.length ≤ 32
  · exact block_Check_ct hs (hl.small h32)
  apply F_block_Check_ok
  unfold F_block_Check
  have H := St.nil w
  refine ⟨fun w1 => w1 = w ∧ ¬ (room < 1 ∨ room > 256), ?_, ?_⟩ --!
  · rintro _ w1 ⟨rfl, hr⟩
    refine bsplit_dec (fun c8 => ?_) (fun c8 => absurd (by omega) c8) --  (decide ((l_l : Int) > (32 : Int)))
    exact ⟨by unfold chkS; rw [if_neg hr, if_pos (by omega)], H.below⟩ --! (.int .i64 (2 : Int))
  · refine bsplit_dec (fun c1 => ?_) (fun c1 => ?_) --  (decide (room < (1 : Int)))
    · exact ⟨by unfold chkS; rw [if_pos (by omega)], H.below⟩ --! (.int .i64 (3 : Int))
    · refine bsplit_dec (fun c => ?_) (fun c => ?_) --  (decide (room > (256 : Int)))
      · exact ⟨by unfold chkS; rw [if_pos (by omega)], H.below⟩ --! (.int .i64 (3 : Int))
      · exact ⟨rfl, by omega⟩ --! J 
theorem ref24_Check_raw (hs : SecR w l_a l) (hl : Sm l) :
    Calls Try.prog N_ref24_Check #[(.slice l_a l.length l_c), (.int .i64 room)] w fun e w' => e = .returned (.int .i64 (chkS l room)) ∧ Below w.heap.size w w' := by
  by_cases h32 : l.length ≤ 32
  · exact ref24_Check_ct hs (hl.small h32)
  apply F_ref24_Check_ok
  unfold F_ref24_Check
  have H := St.nil w
  refine ⟨fun w1 => w1 = w ∧ ¬ (room < 1 ∨ room > 256), ?_, ?_⟩ --!
  · rintro _ w1 ⟨rfl, hr⟩
    refine bsplit_dec (fun c8 => ?_) (fun c8 => absurd (by omega) c8) --  (decide ((l_l : Int) > (32 : Int)))
    exact ⟨by unfold chkS; rw [if_neg hr, if_pos (by omega)], H.below⟩ --! (.int .i64 (2 : Int))
  · refine bsplit_dec (fun c1 => ?_) (fun c1 => ?_) --  (decide (room < (1 : Int)))
    · exact ⟨by unfold chkS; rw [if_pos (by omega)], H.below⟩ --! (.int .i64 (3 : Int))
    · refine bsplit_dec (fun c => ?_) (fun c => ?_) --  (decide (room > (256 : Int)))
      · exact ⟨by unfold chkS; rw [if_pos (by omega)], H.below⟩ --! (.int .i64 (3 : Int))
      · exact ⟨rfl, by omega⟩ --! J 
theorem chk_long (h : ¬ l.length ≤ 32) : chkS l room ≠ 0 := by
  unfold chkS
  split
  · omega
  · rw [if_pos (by omega)]; omega
theorem block_Encode_raw (hs : SecR w l_a l) (hl : Sm l) :
    Calls Try.prog N_block_Encode #[(.slice l_a l.length l_c), (.int .i64 room)] w (RetB w (encS l room).1 (encS l room).2) := by
  by_cases h32 : l.length ≤ 32
  · exact block_Encode_ct hs (hl.small h32)
  apply F_block_Encode_ok
  unfold F_block_Encode
  have H := St.startA w
  refine (block_Check_raw hs hl).mono ?_ -- (.slice l_a l_l l_c), (.int .i64 room)
  rintro _ w1 ⟨rfl, hb1⟩; have H1 := H.pass hb1; clear H
  refine ⟨_, rfl, ?_⟩
  refine bsplit_nd (fun c3 => ?_) (fun c3 => absurd c3 (chk_long h32)) --  (!decide (r = (0 : Int)))
  rw [encS_err c3]
  exact .nil H1.below _ --! (.tuple #[(.slice none 0 0), (.int .i64 r)])
theorem ref24_Encode_raw (hs : SecR w l_a l) (hl : Sm l) :
    Calls Try.prog N_ref24_Encode #[(.slice l_a l.length l_c), (.int .i64 room)] w (RetB w (encS l room).1 (encS l room).2) := by
  by_cases h32 : l.length ≤ 32
  · exact ref24_Encode_ct hs (hl.small h32)
  apply F_ref24_Encode_ok
  unfold F_ref24_Encode
  have H := St.startA w
  refine (ref24_Check_raw hs hl).mono ?_ -- (.slice l_a l_l l_c), (.int .i64 size)
  rintro _ w1 ⟨rfl, hb1⟩; have H1 := H.pass hb1; clear H
  refine ⟨_, rfl, ?_⟩
  refine bsplit_nd (fun c3 => ?_) (fun c3 => absurd c3 (chk_long h32)) --  (!decide (r = (0 : Int)))
  rw [encS_err c3]
  exact .nil H1.below _ --! (.tuple #[(.slice none 0 0), (.int .i64 r)])
theorem block_Used_raw (hs : SecR w l_a l) (hl : Sm l) :
    Calls Try.prog N_block_Used #[(.slice l_a l.length l_c)] w fun e w' => e = .returned (.int .i64 (IntKind.i64.wrap (usedS l : Nat))) ∧ Below w.heap.size w w' := by
  apply F_block_Used_ok
  unfold F_block_Used
  have H := St.nil w
  obtain ⟨hl1, hl2⟩ := hl
  refine ⟨fun n x => ((l.length - x).toNat, fun w1 => ∃ k : Nat, k ≤ l.length ∧ x = k ∧ n = IntKind.i64.wrap (usedS (l.take k) : Nat) ∧ FreshR w w1 []), ⟨0, by omega, rfl, rfl, H⟩, ?_⟩ --! I (0 : Int) (0 : Int)
  clear H
  rintro _ n x w1 ⟨k, hk, rfl, rfl, H1⟩
  refine bsplit_dec (fun c => ?_) (fun c => ?_) --  (decide (x < (l_l : Int)))
  · have hlt : k < l.length := by omega
    have hu := usedS_take l k hlt
    have hd := hl2 _ (List.getElem_mem hlt)
    refine ixE (secR_below hs H1.below) k rfl hlt fun b s hsk hb => ?_
    obtain rfl : l[k] = s := by rw [List.getElem?_eq_getElem hlt] at hsk; injection hsk
    obtain ⟨a, c, h1, h2, h3⟩ := hb
    refine ⟨_, _, _, _, h1, ?_⟩
    refine H1.alloc ?_; clear H1; intro b1 w2 H2
    refine H2.store (i := 0) rfl (by rfl) (by rfl) ?_; clear H2; intro w3 H3
    refine H3.ldS (i := 0) rfl rfl ?_
    refine kW_i64 (by omega) ?_ -- (2 : Int) + (x_1_l : Int)
    refine kW_to (wrap_add _ _) ?_ -- n + ((2 : Int) + (x_1_l : Int))
    refine kW_i64 (by omega) ?_ -- x + (1 : Int)
    exact ⟨⟨k + 1, by omega, by omega, by rw [hu]; congr 1 <;> omega, H3.fin⟩, by dsimp only; omega⟩ --! I (n + ((2 : Int) + (x_1_l : Int))) (x + (1 : Int))
  · obtain rfl : k = l.length := by omega
    exact ⟨by rw [List.take_length], H1.below⟩ --! (.int .i64 n)
theorem ref24_Used_raw (hs : SecR w l_a l) (hl : Sm l) :
    Calls Try.prog N_ref24_Used #[(.slice l_a l.length l_c)] w fun e w' => e = .returned (.int .i64 (IntKind.i64.wrap (usedS l : Nat))) ∧ Below w.heap.size w w' := by
  apply F_ref24_Used_ok
  unfold F_ref24_Used
  have H := St.nil w
  obtain ⟨hl1, hl2⟩ := hl
  refine ⟨fun n x => ((l.length - x).toNat, fun w1 => ∃ k : Nat, k ≤ l.length ∧ x = k ∧ n = IntKind.i64.wrap (usedS (l.take k) : Nat) ∧ FreshR w w1 []), ⟨0, by omega, rfl, rfl, H⟩, ?_⟩ --! I (0 : Int) (0 : Int)
  clear H
  rintro _ n x w1 ⟨k, hk, rfl, rfl, H1⟩
  refine bsplit_dec (fun c => ?_) (fun c => ?_) --  (decide (x < (l_l : Int)))
  · have hlt : k < l.length := by omega
    have hu := usedS_take l k hlt
    refine kW_to (wrap_add _ _) ?_ -- n + (2 : Int)
    refine ixE (secR_below hs H1.below) k rfl hlt fun b s hsk hb => ?_
    obtain rfl : l[k] = s := by rw [List.getElem?_eq_getElem hlt] at hsk; injection hsk
    obtain ⟨a, c, h1, h2, h3⟩ := hb
    refine ldS_at h1 1 rfl ?_
    refine kW_to (wrap_add _ _) ?_ -- (n + (2 : Int)) + (x_l : Int)
    refine kW_i64 (by omega) ?_ -- i + (1 : Int)
    exact ⟨⟨k + 1, by omega, by omega, by rw [hu]; congr 1 <;> omega, H1⟩, by dsimp only; omega⟩ --! I ((n + (2 : Int)) + (x_l : Int)) (i + (1 : Int))
  · obtain rfl : k = l.length := by omega
    exact ⟨by rw [List.take_length], H1.below⟩ --! (.int .i64 n)
theorem law24_light_ct (hs : SecR w l_a l) (hl : l.length ≤ 140737488355328) :
    Calls Try.prog N_law24_light #[(.slice l_a l.length l_c)] w fun e w' => ∃ r : Bool, e = .returned (.bool r) ∧ Below w.heap.size w w' := by
  apply F_law24_light_ok
  unfold F_law24_light
  have H := St.nil w
  refine ⟨fun n i => ((l.length - i).toNat, fun w1 => ∃ k : Nat, k ≤ l.length ∧ i = k ∧ FreshR w w1 []), ⟨0, by omega, rfl, H⟩, ?_⟩ --! I (0 : Int) (0 : Int)
  clear H
  rintro _ n i w1 ⟨k, hk, rfl, H1⟩
  refine bsplit_dec (fun c => ?_) (fun c => ?_) --  (decide (i < (l_l : Int)))
  · have hlt : k < l.length := by omega
    refine kW_intro fun y1 _ => ?_ -- n + (4 : Int)
    refine ixE (secR_below hs H1.below) k rfl hlt fun b s hsk hb => ?_
    obtain ⟨a, c, h1, h2, h3⟩ := hb
    refine ldS_at h1 1 rfl ?_
    refine kW_intro fun y2 _ => ?_ -- (n + (4 : Int)) + (x_l : Int)
    refine kW_i64 (by omega) ?_ -- i + (1 : Int)
    exact ⟨⟨k + 1, by omega, by omega, H1⟩, by dsimp only; omega⟩ --! I ((n + (4 : Int)) + (x_l : Int)) (i + (1 : Int))
  · refine kLet_in ?_
    exact ⟨_, rfl, H1.below⟩ --! (.bool (decide (n ≤ (3000 : Int))))
end
section
variable {l_a b_a : Option Addr} {l : List Sec} {l_c b_c : Nat} {bs : List Int} {size : Int} {w : World}
theorem law24_BlockRaw_ct (hs : SecR w l_a l) (hl : Sm l) (hb : SlR (IntC .u8) 1 w b_a bs) (hB : Bytes bs) (hcap : bs.length ≤ b_c) :
    Calls Try.prog N_law24_BlockRaw #[(.slice l_a l.length l_c), (.int .i64 size), (.slice b_a bs.length b_c)] w fun e w' => e = .returned (.bool true) ∧ Below w.heap.size w w' := by
  apply F_law24_BlockRaw_ok
  unfold F_law24_BlockRaw
  have H := St.nil w
  have awake : ∀ {w' : World} {R : List Res} {P : World → Prop}, St (fun _ => False) [] w w' R P → Calls Try.prog N_law24_awake #[] w' fun e w'' => ∃ r : Bool, e = .returned (.bool r) ∧ (Ending.returned (.bool r) = .returned (.bool true) ∧ Below w.heap.size w w'') := fun H' => by
    refine law24_awake_ct.mono ?_
    rintro _ w2 ⟨rfl, hb2⟩
    exact ⟨_, rfl, rfl, (H'.pass hb2).below⟩
  refine ⟨fun  w4 => FreshR w w4 [] ∧ bs.length ≤ 600, ?_, ?_⟩ --!
  · rintro _  w4 ⟨H4, hbl⟩
    refine (block_Encode_raw (secR_below hs H4.below) hl).mono ?_ -- (.slice l_a l_l l_c), (.int .i64 size)
    rintro _ w5 ⟨qa, qc, hqc, rfl, S5⟩; have H5 := H4.callF S5; clear H4
    refine ⟨_, _, _, _, rfl, ?_⟩
    refine (ref24_Encode_raw (secR_below hs H5.below) hl).mono ?_ -- (.slice l_a l_l l_c), (.int .i64 size)
    rintro _ w6 ⟨qa1, qc1, hqc1, rfl, S6⟩; have H6 := H5.callF S6; clear H5
    refine ⟨_, _, _, _, rfl, ?_⟩
    refine (block_Decode_ct (hb.below H6.below) hB (by omega) hcap).mono ?_ -- (.slice b_a b_l b_c)
    rintro _ w7 ⟨da, dc, hdc, rfl, S7⟩; have H7 := H6.callF S7; clear H6
    refine ⟨_, _, _, _, rfl, ?_⟩
    refine (ref24_Decode_ct (hb.below H7.below) hB (by omega) hcap).mono ?_ -- (.slice b_a b_l b_c)
    rintro _ w8 ⟨da1, dc1, hdc1, rfl, S8⟩; have H8 := H7.callF S8; clear H7
    refine ⟨_, _, _, _, rfl, ?_⟩
    have hel := encS_le l size
    have hds := decS_data bs
    refine bsplit_dec (fun c7 => ?_) (fun c7 => absurd rfl c7) --  (decide (r3 = r4))
    refine bsplit_dec (fun c6 => ?_) (fun c6 => absurd rfl c6) --  (decide (r5 = r6))
    refine (ref24_SameBytes_ct (xs := (encS l size).1) (ys := (encS l size).1) H8.get.2.2.2.1 H8.get.2.2.1 (by omega)).mono ?_ -- (.slice r_a r_l r_c), (.slice r_a1 r_l1 r_c1)
    rintro _ w9 ⟨rfl, hb9⟩; have H9 := H8.pass hb9; clear H8
    refine ⟨_, rfl, ?_⟩
    refine bsplit_dec (fun c5 => ?_) (fun c5 => absurd rfl c5) --  r7
    refine (ref24_Same_ct (l := (decS bs).1) (m := (decS bs).1) H9.get.2.1 H9.get.1 hds.1 hds.2).mono ?_ -- (.slice r_a2 r_l2 r_c2), (.slice r_a3 r_l3 r_c3)
    rintro _ w10 ⟨rfl, hb10⟩; have H10 := H9.pass hb10; clear H9
    refine ⟨_, rfl, ?_⟩
    refine bsplit_dec (fun c4 => ?_) (fun c4 => absurd rfl c4) --  r8
    refine (block_Check_raw (secR_below hs H10.below) hl).mono ?_ -- (.slice l_a l_l l_c), (.int .i64 size)
    rintro _ w11 ⟨rfl, hb11⟩; have H11 := H10.pass hb11; clear H10
    refine ⟨_, rfl, ?_⟩
    refine (ref24_Check_raw (secR_below hs H11.below) hl).mono ?_ -- (.slice l_a l_l l_c), (.int .i64 size)
    rintro _ w12 ⟨rfl, hb12⟩; have H12 := H11.pass hb12; clear H11
    refine ⟨_, rfl, ?_⟩
    refine bsplit_dec (fun c3 => ?_) (fun c3 => absurd rfl c3) --  (decide (r9 = r10))
    refine (block_Used_raw (secR_below hs H12.below) hl).mono ?_ -- (.slice l_a l_l l_c)
    rintro _ w13 ⟨rfl, hb13⟩; have H13 := H12.pass hb13; clear H12
    refine ⟨_, rfl, ?_⟩
    refine (ref24_Used_raw (secR_below hs H13.below) hl).mono ?_ -- (.slice l_a l_l l_c)
    rintro _ w14 ⟨rfl, hb14⟩; have H14 := H13.pass hb14; clear H13
    refine ⟨_, rfl, ?_⟩
    exact bsplit_dec (fun c2 => awake H14) (fun c2 => absurd rfl c2) --  (decide (r11 = r12))
  · refine (law24_light_ct hs hl.1).mono ?_ -- (.slice l_a l_l l_c)
    rintro _ w1 ⟨r, rfl, hb1⟩; have H1 := H.pass hb1; clear H
    refine ⟨_, rfl, ?_⟩
    refine bsplit_n (fun c1 => awake H1) (fun c1 => ?_) --  (!r)
    refine bsplit_dec (fun c => awake H1) (fun c => ⟨H1, by omega⟩) --  (decide ((b_l : Int) > (600 : Int)))
theorem lit_bytes {xs : List Int} (h : ∀ i (h : i < xs.length), (Lit.int .u8 xs[i]).wf = true) : Bytes xs := fun i hi => by
  have := bounds_u8 (h i hi); omega
/-- sections as an argument holds them, out of their shape -/
theorem sections_of {W : World} {a : Option Addr} {l : Nat} (hr : l ≤ 140737488355328)
    (h : 0 < l → ∃ b, a = some b ∧ ∀ i, i < l → ∃ es, cellsAt W (b.add (i * 2)) 0 es ∧ es.length = 2 ∧ (Shape.cons 1 (.int .i64) (.cons 1 (.sl 1 (.int .u8)) .nil)).RW W es) :
    ∃ L : List Sec, L.length = l ∧ SecR W a L ∧ Sm L := by
  rcases Nat.eq_zero_or_pos l with rfl | hl
  · exact ⟨[], rfl, .inl rfl, by simp, fun s hs => by simp at hs⟩
  · obtain ⟨b, rfl, hb⟩ := h hl
    obtain ⟨L, hL, hq⟩ := choose_list (Q := fun i (s : Sec) => SecE W (b.add (i * 2)) s ∧ s.data.length ≤ 140737488355328) l fun i hi => by
      obtain ⟨es, hes, h2, hR⟩ := hb i hi
      obtain ⟨⟨n, h3, _⟩, h4⟩ := hR
      obtain ⟨⟨da, dl, dc, h5, h6, h7, h8⟩, h9⟩ := h4
      have h10 : es = [.int .i64 n, .slice da dl dc] := by
        rcases es with _ | ⟨x, _ | ⟨y, t⟩⟩
        · simp at h2
        · simp at h2
        · simp only [List.length_cons] at h2
          obtain rfl : t = [] := List.eq_nil_of_length_eq_zero (by omega)
          simp at h3 h5
          rw [h3, h5]
      subst h10
      obtain ⟨xs, hx, hsl, hwf⟩ := sl_intsW h8
      subst hx
      have h7' : xs.length ≤ 140737488351232 := h7
      exact ⟨⟨n, xs⟩, ⟨da, dc, hes, hsl, h6⟩, by simp only; omega⟩
    refine ⟨L, hL, .inr ⟨b, rfl, fun i hi => (hq i hi).1⟩, by omega, fun s hs => ?_⟩
    obtain ⟨i, hi, rfl⟩ := List.getElem_of_mem hs
    exact (hq i hi).2
end
end Go.Proofs.Ytjmjdjpbgjjhmaa
