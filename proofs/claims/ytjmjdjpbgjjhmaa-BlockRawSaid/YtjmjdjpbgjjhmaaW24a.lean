import Derived.Test.YtjmjdjpbgjjhmaaP24
import Derived.Test.YtjmjdjpbgjjhmaaForms
import Derived.Test.YtjmjdjpbgjjhmaaTys
import Derived.Test.YtjmjdjpbgjjhmaaEl
import Derived.Test.YtjmjdjpbgjjhmaaBt
namespace Go.Proofs.Ytjmjdjpbgjjhmaa
open Go.Sx Go.RowKit

/-- a section lies at p -/
def SecE (w : World) (p : Addr) (s : Sec) : Prop := ∃ a c, cellsAt w p 0 [.int .i64 s.ch, .slice a s.data.length c] ∧ SlR (IntC .u8) 1 w a s.data ∧ s.data.length ≤ c
abbrev SecR (w : World) (a : Option Addr) (l : List Sec) : Prop := SlR SecE 2 w a l
theorem SecE.below {w w' : World} {p : Addr} {s : Sec} (h : SecE w p s) (hb : Below w.heap.size w w') : SecE w' p s := by
  obtain ⟨a, c, h1, h2, h3⟩ := h
  exact ⟨a, c, cellsAt_keep (fun _ _ hp _ => hb.get hp) h1, h2.below hb, h3⟩
theorem secR_below {w w' : World} {a : Option Addr} {l : List Sec} (h : SecR w a l) (hb : Below w.heap.size w w') : SecR w' a l := h.keep fun _ _ hc => hc.below hb
/-- bounds on what sections need -/
def Small (l : List Sec) : Prop := l.length ≤ 140737488355328 ∧ usedS l ≤ 1000000000000000000

theorem block_size_ct {channel : Int} {w : World} :
    Calls Try.prog N_block_size #[(.int .i64 channel)] w fun e w' => ∃ n ok, e = .returned (.tuple #[.int .i64 n, .bool ok]) ∧ (ok = decide (chOk channel)) ∧ (chOk channel → n = if channel = 8 then 1 else if channel = 9 ∨ channel = 10 then 2 else 0) ∧ Below w.heap.size w w' := by
  apply F_block_size_ok
  unfold F_block_size
  have H := St.nil w
  have key : ∀ (n : Int) (ok : Bool), ok = decide (chOk channel) → (chOk channel → n = if channel = 8 then 1 else if channel = 9 ∨ channel = 10 then 2 else 0) →
      ∃ n' ok', Ending.returned (.tuple #[.int .i64 n, .bool ok]) = .returned (.tuple #[.int .i64 n', .bool ok']) ∧ (ok' = decide (chOk channel)) ∧ (chOk channel → n' = if channel = 8 then 1 else if channel = 9 ∨ channel = 10 then 2 else 0) ∧ Below w.heap.size w w := fun n ok h1 h2 => ⟨n, ok, rfl, h1, h2, H.below⟩
  have ht : channel = 8 ∨ channel = 9 ∨ channel = 10 → true = decide (chOk channel) := fun h => (decide_eq_true (show chOk channel by unfold chOk; omega)).symm
  refine kLet_in ?_
  refine bsplit_dec (fun c5 => ?_) (fun c5 => ?_) --  (decide (channel = (8 : Int)))
  · exact key _ _ (ht (by omega)) fun _ => by rw [if_pos c5]
  · refine kLet_in ?_
    refine bsplit_dec (fun c4 => ?_) (fun c4 => ?_) --  (decide (channel = (9 : Int)))
    · refine bsplit_dec (fun c1 => ?_) (fun c1 => absurd c4 c1) --  (decide (channel = (9 : Int)))
      exact key _ _ (ht (by omega)) fun _ => by rw [if_neg c5, if_pos (by omega)]
    · refine kLet_in ?_
      refine bsplit_dec (fun c3 => ?_) (fun c3 => ?_) --  (decide (channel = (10 : Int)))
      · exact key _ _ (ht (by omega)) fun _ => by rw [if_neg c5, if_pos (by omega)]
      · refine bsplit_dec (fun c2 => ?_) (fun c2 => ?_) --  (decide (channel ≥ (0 : Int)))
        · refine kLet_in ?_
          exact key _ _ (by rw [decide_eq_decide]; unfold chOk; omega) fun _ => by rw [if_neg c5, if_neg (by omega)]
        · exact key _ _ (by rw [decide_eq_false (by unfold chOk; omega)]) fun h => by unfold chOk at h; omega

section
variable {l_a : Option Addr} {l : List Sec} {l_c : Nat} {room : Int} {w : World}
theorem block_Used_ct (hs : SecR w l_a l) (hl : Small l) :
    Calls Try.prog N_block_Used #[(.slice l_a l.length l_c)] w fun e w' => e = .returned (.int .i64 (usedS l : Nat)) ∧ Below w.heap.size w w' := by
  apply F_block_Used_ok
  unfold F_block_Used
  have H := St.nil w
  obtain ⟨hl1, hl2⟩ := hl
  refine ⟨fun n x => ((l.length - x).toNat, fun w1 => ∃ k : Nat, k ≤ l.length ∧ x = k ∧ n = (usedS (l.take k) : Nat) ∧ FreshR w w1 []), ⟨0, by omega, rfl, rfl, H⟩, ?_⟩ --! I (0 : Int) (0 : Int)
  clear H
  rintro _ n x w1 ⟨k, hk, rfl, rfl, H1⟩
  refine bsplit_dec (fun c => ?_) (fun c => ?_) --  (decide (x < (l_l : Int)))
  · have hlt : k < l.length := by omega
    have hu := usedS_take l k hlt
    have hle : usedS (l.take (k + 1)) ≤ usedS l := by
      have := usedS_append (l.take (k + 1)) (l.drop (k + 1)); rw [List.take_append_drop] at this; omega
    refine ixE (secR_below hs H1.below) k rfl hlt fun b s hsk hb => ?_
    obtain rfl : l[k] = s := by rw [List.getElem?_eq_getElem hlt] at hsk; injection hsk
    obtain ⟨a, c, h1, h2, h3⟩ := hb
    refine ⟨_, _, _, _, h1, ?_⟩ --! load (b.add ((x).toNat * 2)) : ('agg', [('int', 'i64'), ('slice',)]) as [('x_0', 'Int'), ('x_1_a', 'Option Addr'), ('x_1_l', 'Nat'), ('x_1_c', 'Nat')]
    refine H1.alloc ?_; clear H1; intro b1 w2 H2
    refine H2.store (i := 0) rfl (by rfl) (by rfl) ?_; clear H2; intro w3 H3
    refine H3.ldS (i := 0) rfl rfl ?_
    refine kW_i64 (by omega) ?_ -- (2 : Int) + (x_1_l : Int)
    refine kW_i64 (by omega) ?_ -- n + ((2 : Int) + (x_1_l : Int))
    refine kW_i64 (by omega) ?_ -- x + (1 : Int)
    exact ⟨⟨k + 1, by omega, by omega, by omega, H3.fin⟩, by dsimp only; omega⟩ --! I (n + ((2 : Int) + (x_1_l : Int))) (x + (1 : Int))
  · obtain rfl : k = l.length := by omega
    exact ⟨by rw [List.take_length], H1.below⟩ --! (.int .i64 n)
theorem ref24_Used_ct (hs : SecR w l_a l) (hl : Small l) :
    Calls Try.prog N_ref24_Used #[(.slice l_a l.length l_c)] w fun e w' => e = .returned (.int .i64 (usedS l : Nat)) ∧ Below w.heap.size w w' := by
  apply F_ref24_Used_ok
  unfold F_ref24_Used
  have H := St.nil w
  obtain ⟨hl1, hl2⟩ := hl
  refine ⟨fun n x => ((l.length - x).toNat, fun w1 => ∃ k : Nat, k ≤ l.length ∧ x = k ∧ n = (usedS (l.take k) : Nat) ∧ FreshR w w1 []), ⟨0, by omega, rfl, rfl, H⟩, ?_⟩ --! I (0 : Int) (0 : Int)
  clear H
  rintro _ n x w1 ⟨k, hk, rfl, rfl, H1⟩
  refine bsplit_dec (fun c => ?_) (fun c => ?_) --  (decide (x < (l_l : Int)))
  · have hlt : k < l.length := by omega
    have hu := usedS_take l k hlt
    have hle : usedS (l.take (k + 1)) ≤ usedS l := by
      have := usedS_append (l.take (k + 1)) (l.drop (k + 1)); rw [List.take_append_drop] at this; omega
    refine kW_i64 (by omega) ?_ -- n + (2 : Int)
    refine ixE (secR_below hs H1.below) k rfl hlt fun b s hsk hb => ?_
    obtain rfl : l[k] = s := by rw [List.getElem?_eq_getElem hlt] at hsk; injection hsk
    obtain ⟨a, c, h1, h2, h3⟩ := hb
    refine ldS_at h1 1 rfl ?_
    refine kW_i64 (by omega) ?_ -- (n + (2 : Int)) + (x_l : Int)
    refine kW_i64 (by omega) ?_ -- i + (1 : Int)
    exact ⟨⟨k + 1, by omega, by omega, by omega, H1⟩, by dsimp only; omega⟩ --! I ((n + (2 : Int)) + (x_l : Int)) (i + (1 : Int))
  · obtain rfl : k = l.length := by omega
    exact ⟨by rw [List.take_length], H1.below⟩ --! (.int .i64 n)
theorem ref24_section_ct {s_0 : Int} {s_1_a : Option Addr} {n s_1_c : Nat} :
    Calls Try.prog N_ref24_section #[(.agg #[.int .i64 s_0, .slice s_1_a n s_1_c])] w fun e w' => e = .returned (.int .i64 (secE s_0 n)) ∧ Below w.heap.size w w' := by
  apply F_ref24_section_ok
  unfold F_ref24_section
  have H := St.nil w
  refine H.alloc ?_; clear H; intro b w1 H1
  refine H1.drew ?_; clear H1; intro w2 H2
  refine H2.ld (i := 0) rfl rfl ?_
  refine H2.ldS (i := 0) rfl rfl ?_
  refine ⟨fun x3 w3 => x3 = decide (¬ chOk s_0) ∧ w3 = w2, ?_, ?_⟩ --!
  · rintro _ x3 w3 ⟨rfl, rfl⟩
    refine bsplit_dec (fun c12 => ?_) (fun c12 => ?_) --  x3
    · exact ⟨by unfold secE; rw [if_pos c12], H2.below⟩ --! (.int .i64 (60 : Int))
    · refine ⟨fun x9 w5 => x9 = decide (n = 0 ∨ (s_0 = 8 ∧ n ≠ 1) ∨ ((s_0 = 9 ∨ s_0 = 10) ∧ n ≠ 2)) ∧ w5 = w3, ?_, ?_⟩ --!
      · rintro _ x9 w5 ⟨rfl, rfl⟩
        refine bsplit_dec (fun c11 => ?_) (fun c11 => ?_) --  x9
        · exact ⟨by unfold secE; rw [if_neg c12, if_pos c11], H2.below⟩ --! (.int .i64 (2 : Int))
        · exact ⟨by unfold secE; rw [if_neg c12, if_neg c11], H2.below⟩ --! (.int .i64 (0 : Int))
      · refine kLet_in ?_
        refine bsplit_dec (fun c10 => ?_) (fun c10 => ?_) --  (decide ((s_1_l : Int) = (0 : Int)))
        · exact ⟨by rw [decide_eq_decide]; omega, rfl⟩ --! J1 (decide ((s_1_l : Int) = (0 : Int)))
        · refine ⟨fun x6 w4 => x6 = decide (s_0 = 8 ∧ n ≠ 1) ∧ w4 = w3, ?_, ?_⟩ --!
          · rintro _ x6 w4 ⟨rfl, rfl⟩
            refine bsplit_dec (fun c9 => ?_) (fun c9 => ?_) --  x6
            · exact ⟨by rw [decide_eq_decide]; omega, rfl⟩ --! J1 x6
            · refine bsplit_dec (fun c8 => ?_) (fun c8 => ?_) --  (decide (s_0 = (9 : Int)))
              · refine kLet_in ?_
                exact ⟨by rw [← decide_not, decide_eq_decide]; omega, rfl⟩ --! J1 (!decide ((s_1_l : Int) = (2 : Int)))
              · refine bsplit_dec (fun c7 => ?_) (fun c7 => ?_) --  (decide (s_0 = (10 : Int)))
                · refine kLet_in ?_
                  exact ⟨by rw [← decide_not, decide_eq_decide]; omega, rfl⟩ --! J1 (!decide ((s_1_l : Int) = (2 : Int)))
                · exact ⟨by rw [decide_eq_false (by omega)], rfl⟩ --! J1 false
          · refine bsplit_dec (fun c6 => ?_) (fun c6 => ?_) --  (decide (s_0 = (8 : Int)))
            · refine kLet_in ?_
              exact ⟨by rw [← decide_not, decide_eq_decide]; omega, rfl⟩ --! J2 (!decide ((s_1_l : Int) = (1 : Int)))
            · exact ⟨by rw [decide_eq_false (by omega)], rfl⟩ --! J2 false
  · have h1 : ¬ chOk s_0 ↔ (s_0 < 0 ∨ 8 ≤ s_0) ∧ s_0 ≠ 8 ∧ s_0 ≠ 9 ∧ s_0 ≠ 10 := by unfold chOk; omega
    refine bsplit_dec (fun c5 => ?_) (fun c5 => ?_) --  (decide (s_0 < (0 : Int)))
    · refine bsplit_nd (fun c1 => ?_) (fun c1 => ?_) --  (!decide (s_0 = (8 : Int)))
      · refine bsplit_nd (fun c => ?_) (fun c => ?_) --  (!decide (s_0 = (9 : Int)))
        · refine kLet_in ?_
          exact ⟨by rw [← decide_not, decide_eq_decide, h1]; omega, rfl⟩ --! J (!decide (s_0 = (10 : Int)))
        · exact ⟨by rw [decide_eq_false (by rw [h1]; omega)], rfl⟩ --! J false
      · exact ⟨by rw [decide_eq_false (by rw [h1]; omega)], rfl⟩ --! J false
    · refine bsplit_dec (fun c4 => ?_) (fun c4 => ?_) --  (decide (s_0 ≥ (8 : Int)))
      · refine bsplit_nd (fun c3 => ?_) (fun c3 => ?_) --  (!decide (s_0 = (8 : Int)))
        · refine bsplit_nd (fun c2 => ?_) (fun c2 => ?_) --  (!decide (s_0 = (9 : Int)))
          · refine kLet_in ?_
            exact ⟨by rw [← decide_not, decide_eq_decide, h1]; omega, rfl⟩ --! J (!decide (s_0 = (10 : Int)))
          · exact ⟨by rw [decide_eq_false (by rw [h1]; omega)], rfl⟩ --! J false
        · exact ⟨by rw [decide_eq_false (by rw [h1]; omega)], rfl⟩ --! J false
      · exact ⟨by rw [decide_eq_false (by rw [h1]; omega)], rfl⟩ --! J false
theorem ref24_Check_ct (hs : SecR w l_a l) (hl : Small l) :
    Calls Try.prog N_ref24_Check #[(.slice l_a l.length l_c), (.int .i64 room)] w fun e w' => e = .returned (.int .i64 (chkS l room)) ∧ Below w.heap.size w w' := by
  apply F_ref24_Check_ok
  unfold F_ref24_Check
  have H := St.nil w
  have hl1 := hl.1
  refine ⟨fun w1 => w1 = w ∧ ¬ (room < 1 ∨ room > 256), ?_, ?_⟩ --!
  · rintro _ w1 ⟨rfl, hr⟩
    refine bsplit_dec (fun c5 => ?_) (fun c5 => ?_) --  (decide ((l_l : Int) > (32 : Int)))
    · exact ⟨by unfold chkS; rw [if_neg hr, if_pos (by omega)], H.below⟩ --! (.int .i64 (2 : Int))
    · have ec : chkS l room = if firstE l ≠ 0 then firstE l else if (usedS l : Int) > room then 15 else 0 := by unfold chkS; rw [if_neg hr, if_neg (by omega)]
      rw [ec]
      refine ⟨fun i => ((l.length - i).toNat, fun w2 => ∃ k : Nat, k ≤ l.length ∧ i = k ∧ firstE l = firstE (l.drop k) ∧ FreshR w1 w2 []), ⟨0, by omega, rfl, rfl, H⟩, ?_⟩ --! I (0 : Int)
      clear H
      rintro _ i w2 ⟨k, hk, rfl, hf, H2⟩
      refine bsplit_dec (fun c4 => ?_) (fun c4 => ?_) --  (decide (i < (l_l : Int)))
      · have hlt : k < l.length := by omega
        have hd := firstE_drop l k hlt
        refine ixE (secR_below hs H2.below) k rfl hlt fun b s hsk hb => ?_
        obtain rfl : l[k] = s := by rw [List.getElem?_eq_getElem hlt] at hsk; injection hsk
        obtain ⟨a, c, h1, h2, h3⟩ := hb
        refine ⟨_, _, _, _, h1, ?_⟩ --! load (b.add ((i).toNat * 2)) : ('agg', [('int', 'i64'), ('slice',)]) as [('x_0', 'Int'), ('x_1_a', 'Option Addr'), ('x_1_l', 'Nat'), ('x_1_c', 'Nat')]
        refine ref24_section_ct.mono ?_ -- (.agg #[.int .i64 x_0, .slice x_1_a x_1_l x_1_c])
        rintro _ w3 ⟨rfl, hb3⟩; have H3 := H2.pass hb3; clear H2
        refine ⟨_, rfl, ?_⟩
        refine bsplit_nd (fun c2 => ?_) (fun c2 => ?_) --  (!decide (r = (0 : Int)))
        · have e : firstE l = secE l[k].ch l[k].data.length := by rw [hf, hd, if_pos c2]
          exact ⟨by rw [e, if_pos c2], H3.below⟩ --! (.int .i64 r)
        · refine kW_i64 (by omega) ?_ -- i + (1 : Int)
          exact ⟨⟨k + 1, by omega, by omega, by rw [hf, hd, if_neg (by simpa using c2)], H3⟩, by dsimp only; omega⟩ --! I (i + (1 : Int))
      · obtain rfl : k = l.length := by omega
        have e : firstE l = 0 := by rw [hf, List.drop_length]; rfl
        rw [e]
        refine (ref24_Used_ct (secR_below hs H2.below) hl).mono ?_ -- (.slice l_a l_l l_c)
        rintro _ w4 ⟨rfl, hb4⟩; have H4 := H2.pass hb4; clear H2
        refine ⟨_, rfl, ?_⟩
        refine bsplit_dec (fun c3 => ?_) (fun c3 => ?_) --  (decide (r1 > size))
        · exact ⟨by rw [if_neg (by simp), if_pos c3], H4.below⟩ --! (.int .i64 (15 : Int))
        · exact ⟨by rw [if_neg (by simp), if_neg c3], H4.below⟩ --! (.int .i64 (0 : Int))
  · refine bsplit_dec (fun c1 => ?_) (fun c1 => ?_) --  (decide (size < (1 : Int)))
    · exact ⟨by unfold chkS; rw [if_pos (by omega)], H.below⟩ --! (.int .i64 (3 : Int))
    · refine bsplit_dec (fun c => ?_) (fun c => ?_) --  (decide (size > (256 : Int)))
      · exact ⟨by unfold chkS; rw [if_pos (by omega)], H.below⟩ --! (.int .i64 (3 : Int))
      · exact ⟨rfl, by omega⟩ --! J 
theorem block_Check_ct (hs : SecR w l_a l) (hl : Small l) :
    Calls Try.prog N_block_Check #[(.slice l_a l.length l_c), (.int .i64 room)] w fun e w' => e = .returned (.int .i64 (chkS l room)) ∧ Below w.heap.size w w' := by
  apply F_block_Check_ok
  unfold F_block_Check
  have H := St.nil w
  have hl1 := hl.1
  refine ⟨fun w1 => w1 = w ∧ ¬ (room < 1 ∨ room > 256), ?_, ?_⟩ --!
  · rintro _ w1 ⟨rfl, hr⟩
    refine bsplit_dec (fun c8 => ?_) (fun c8 => ?_) --  (decide ((l_l : Int) > (32 : Int)))
    · exact ⟨by unfold chkS; rw [if_neg hr, if_pos (by omega)], H.below⟩ --! (.int .i64 (2 : Int))
    · have ec : chkS l room = if firstE l ≠ 0 then firstE l else if (usedS l : Int) > room then 15 else 0 := by unfold chkS; rw [if_neg hr, if_neg (by omega)]
      rw [ec]
      refine ⟨fun i => ((l.length - i).toNat, fun w2 => ∃ k : Nat, k ≤ l.length ∧ i = k ∧ firstE l = firstE (l.drop k) ∧ FreshR w1 w2 []), ⟨0, by omega, rfl, rfl, H⟩, ?_⟩ --! I (0 : Int)
      clear H
      rintro _ x w2 ⟨k, hk, rfl, hf, H2⟩
      refine bsplit_dec (fun c7 => ?_) (fun c7 => ?_) --  (decide (x < (l_l : Int)))
      · have hlt : k < l.length := by omega
        have hd := firstE_drop l k hlt
        refine ixE (secR_below hs H2.below) k rfl hlt fun b s hsk hb => ?_
        obtain rfl : l[k] = s := by rw [List.getElem?_eq_getElem hlt] at hsk; injection hsk
        obtain ⟨a, c, h1, h2, h3⟩ := hb
        refine ⟨_, _, _, _, h1, ?_⟩ --! load (b.add ((x).toNat * 2)) : ('agg', [('int', 'i64'), ('slice',)]) as [('x_0', 'Int'), ('x_1_a', 'Option Addr'), ('x_1_l', 'Nat'), ('x_1_c', 'Nat')]
        refine H2.alloc ?_; clear H2; intro b1 w3 H3
        refine H3.store (i := 0) rfl (by rfl) (by rfl) ?_; clear H3; intro w4 H4
        refine H4.ld (i := 0) rfl rfl ?_
        refine block_size_ct.mono ?_ -- (.int .i64 x_0)
        rintro _ w5 ⟨n, ok, rfl, rfl, hn, hb5⟩; have H5 := H4.pass hb5; clear H4
        refine ⟨_, _, rfl, ?_⟩
        have bad : ∀ {er : Int}, secE l[k].ch l[k].data.length = er → er ≠ 0 → firstE l = er := fun h1 h2 => by rw [hf, hd, h1, if_pos h2]
        refine bsplit_nd (fun c5 => ?_) (fun c5 => ?_) --  (!r1)
        · have e := bad (er := 60) (by unfold secE; rw [if_pos c5]) (by decide)
          exact ⟨by rw [e]; rfl, H5.below⟩ --! (.int .i64 (60 : Int))
        · have hn := hn c5
          have go : secE l[k].ch l[k].data.length = 0 → (∃ k2 : Nat, k2 ≤ l.length ∧ (k : Int) + 1 = k2 ∧ firstE l = firstE (l.drop k2) ∧ FreshR w1 w5 []) := fun h => ⟨k + 1, by omega, by omega, by rw [hf, hd, if_neg (by simpa using h)], H5.fin⟩
          refine H5.ldS (i := 0) rfl rfl ?_
          refine bsplit_dec (fun c4 => ?_) (fun c4 => ?_) --  (decide ((x_1_l : Int) = (0 : Int)))
          · have e := bad (er := 2) (by unfold secE; rw [if_neg (by simpa using c5), if_pos (by omega)]) (by decide)
            exact ⟨by rw [e]; rfl, H5.below⟩ --! (.int .i64 (2 : Int))
          · have good : ¬ (l[k].data.length = 0 ∨ (l[k].ch = 8 ∧ l[k].data.length ≠ 1) ∨ ((l[k].ch = 9 ∨ l[k].ch = 10) ∧ l[k].data.length ≠ 2)) → secE l[k].ch l[k].data.length = 0 := fun h => by unfold secE; rw [if_neg (by simpa using c5), if_neg h]
            refine bsplit_dec (fun c3 => ?_) (fun c3 => ?_) --  (decide (r > (0 : Int)))
            · refine H5.ldS (i := 0) rfl rfl ?_
              refine bsplit_nd (fun c2 => ?_) (fun c2 => ?_) --  (!decide ((x_1_l : Int) = r))
              · have e := bad (er := 2) (by
                  unfold secE; rw [if_neg (by simpa using c5), if_pos ?_]
                  split at hn
                  · omega
                  · split at hn <;> omega) (by decide)
                exact ⟨by rw [e]; rfl, H5.below⟩ --! (.int .i64 (2 : Int))
              · refine kW_i64 (by omega) ?_ -- x + (1 : Int)
                refine ⟨go (good ?_), by dsimp only; omega⟩ --! I (x + (1 : Int))
                split at hn
                · omega
                · split at hn <;> omega
            · refine kW_i64 (by omega) ?_ -- x + (1 : Int)
              refine ⟨go (good ?_), by dsimp only; omega⟩ --! I (x + (1 : Int))
              split at hn
              · omega
              · split at hn <;> omega
      · obtain rfl : k = l.length := by omega
        have e : firstE l = 0 := by rw [hf, List.drop_length]; rfl
        rw [e]
        refine (block_Used_ct (secR_below hs H2.below) hl).mono ?_ -- (.slice l_a l_l l_c)
        rintro _ w6 ⟨rfl, hb6⟩; have H6 := H2.pass hb6; clear H2
        refine ⟨_, rfl, ?_⟩
        refine bsplit_dec (fun c6 => ?_) (fun c6 => ?_) --  (decide (r2 > room))
        · exact ⟨by rw [if_neg (by simp), if_pos c6], H6.below⟩ --! (.int .i64 (15 : Int))
        · exact ⟨by rw [if_neg (by simp), if_neg c6], H6.below⟩ --! (.int .i64 (0 : Int))
  · refine bsplit_dec (fun c1 => ?_) (fun c1 => ?_) --  (decide (room < (1 : Int)))
    · exact ⟨by unfold chkS; rw [if_pos (by omega)], H.below⟩ --! (.int .i64 (3 : Int))
    · refine bsplit_dec (fun c => ?_) (fun c => ?_) --  (decide (room > (256 : Int)))
      · exact ⟨by unfold chkS; rw [if_pos (by omega)], H.below⟩ --! (.int .i64 (3 : Int))
      · exact ⟨rfl, by omega⟩ --! J 
end
end Go.Proofs.Ytjmjdjpbgjjhmaa
