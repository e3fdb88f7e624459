import Derived.Test.YtlgolgpellbnbaaM21a
import Derived.Test.YtlgolgpellbnbaaM18
import Derived.Test.YtlgolgpellbnbaaEq3
import Derived.Test.YtlgolgpellbnbaaM21b
import Derived.Lib.SlBytesConst
import Derived.Test.YtlgolgpellbnbaaForms
import Derived.Test.YtlgolgpellbnbaaTys
import Derived.Test.YtlgolgpellbnbaaBt
import Derived.Test.YtlgolgpellbnbaaSt
import Derived.Test.YtlgolgpellbnbaaFxUnackWhole
import Derived.Test.YtlgolgpellbnbaaFxUnackLosses
import Derived.Test.YtlgolgpellbnbaaOp
/- Chapter 23, plain: the sending side of unacknowledged mode; no program in sight. -/
namespace Go.Sx
structure Cu where
  bits : Int
  next : Int
  q : List (List Int)
  sent : Int
def sizedB (d : List Int) : Prop := 1 ≤ d.length ∧ d.length ≤ 2054
instance (d : List Int) : Decidable (sizedB d) := inferInstanceAs (Decidable (_ ∧ _))
def headOk (c : Cu) : Prop := match c.q with
  | [] => c.sent = 0
  | d :: _ => c.sent < d.length
instance (c : Cu) : Decidable (headOk c) := by unfold headOk; cases c.q <;> infer_instance
def cuOk (c : Cu) : Prop := bitsOk c.bits ∧ (0 ≤ c.next ∧ c.next < 2 ^ c.bits.toNat) ∧ c.q.length ≤ 256 ∧ 0 ≤ c.sent ∧ (∀ d ∈ c.q, sizedB d) ∧ headOk c
instance (c : Cu) : Decidable (cuOk c) := inferInstanceAs (Decidable (_ ∧ _))
def subC (c : Cu) (d : List Int) : Cu × Int :=
  if ¬ cuOk c then (c, 1) else if ¬ sizedB d then (c, 2) else if c.q.length = 256 then (c, 13) else ({ c with q := c.q ++ [d] }, 0)
def sumL : List (List Int) → Int
  | [] => 0
  | d :: l => d.length + sumL l
theorem sumL_snoc (l : List (List Int)) (d : List Int) : sumL (l ++ [d]) = sumL l + d.length := by
  induction l with
  | nil => simp [sumL]
  | cons x l ih => simp only [List.cons_append, sumL, ih]; omega
theorem sumL_nn (l : List (List Int)) : 0 ≤ sumL l := by
  induction l with
  | nil => exact Int.le_refl _
  | cons x l ih => simp only [sumL]; omega
theorem sumL_le {l : List (List Int)} (h : ∀ d ∈ l, sizedB d) : sumL l ≤ 2054 * l.length := by
  induction l with
  | nil => simp [sumL]
  | cons x l ih =>
    have h1 := (h x (by simp)).2
    have h2 := ih fun d hd => h d (by simp [hd])
    simp only [sumL, List.length_cons]; omega
theorem wait_fit {c : Cu} (h : cuOk c) : (0 ≤ c.sent ∧ c.sent ≤ 2054) ∧ ∀ k, sumL (c.q.take k) ≤ 600000 := by
  obtain ⟨-, -, hl, hs, hd, hh⟩ := h
  refine ⟨⟨hs, ?_⟩, fun k => ?_⟩
  · unfold headOk at hh
    cases hq : c.q with
    | nil => rw [hq] at hh; replace hh : c.sent = 0 := hh; omega
    | cons d l =>
      rw [hq] at hh
      replace hh : c.sent < d.length := hh
      have := (hd d (by rw [hq]; simp)).2; omega
  · have := sumL_le (l := c.q.take k) fun d hd' => hd d (List.mem_of_mem_take hd')
    have : (c.q.take k).length ≤ c.q.length := List.length_take_le' _ _
    omega
def waitC (c : Cu) : Int := if ¬ cuOk c then 0 else sumL c.q - c.sent
/-- the rest of the first unit as a piece -/
def restP (c : Cu) (d : List Int) : Pc := ⟨c.next, if c.sent = 0 then 0 else 2, 0, c.sent, d.drop c.sent.toNat⟩
def afterC (c : Cu) (d : List Int) (l : List (List Int)) (n : Int) : Cu :=
  if c.sent + n = d.length then { c with q := l, sent := 0, next := (c.next + 1) % 2 ^ c.bits.toNat } else { c with sent := c.sent + n }
def buildC (c : Cu) (size : Int) : Cu × List Int × Int :=
  if ¬ cuOk c then (c, [], 1) else if size < 0 ∨ size > 4096 then (c, [], 3) else match c.q with
    | [] => (c, [], 14)
    | d :: l => if (cutP c.bits (restP c d) size).2.2 ≠ 0 then (c, [], (cutP c.bits (restP c d) size).2.2) else
      (afterC c d l (cutP c.bits (restP c d) size).1.data.length, (encP c.bits (cutP c.bits (restP c d) size).1).1, 0)
/-- the rest of a unit is a piece -/
theorem rest_ok {c : Cu} {d : List Int} {l : List (List Int)} (h : cuOk c) (hq : c.q = d :: l) : (restP c d).ok c.bits := by
  obtain ⟨hb, hn, -, hs, hd, hh⟩ := h
  have h1 := hd d (by rw [hq]; simp)
  have h2 : c.sent < d.length := by unfold headOk at hh; rw [hq] at hh; exact hh
  obtain ⟨h3, h4⟩ := h1
  have hl : (d.drop c.sent.toNat).length = d.length - c.sent.toNat := by simp
  refine ⟨hb, hn, ?_, ⟨by show (0 : Int) ≤ 0; omega, by show (0 : Int) ≤ 1; omega⟩, ?_, ⟨hs, by show c.sent ≤ 2054; omega⟩, ?_, ?_⟩
  · show 0 ≤ (if c.sent = 0 then (0 : Int) else 2) ∧ (if c.sent = 0 then (0 : Int) else 2) ≤ 3
    split <;> omega
  · show ((if c.sent = 0 then (0 : Int) else 2) = 0 ∨ (if c.sent = 0 then (0 : Int) else 2) = 1) ↔ c.sent = 0
    split <;> omega
  · show 1 ≤ (d.drop c.sent.toNat).length; omega
  · show c.sent + ((d.drop c.sent.toNat).length : Int) ≤ 2054; omega
/-- what is cut off is a piece -/
theorem cut_ok {b : Int} {p : Pc} {size : Int} (hp : p.ok b) (he : (cutP b p size).2.2 = 0) : (cutP b p size).1.ok b ∧ (cutP b p size).1.data = p.data.take (cutP b p size).1.data.length ∧ 1 ≤ (cutP b p size).1.data.length := by
  unfold cutP at he ⊢
  rw [if_neg (by simpa using hp)] at he ⊢
  split at he
  · cases he
  · rename_i h1
    rw [if_neg h1]
    split
    · exact ⟨hp, by simp, hp.2.2.2.2.2.2.1⟩
    · rename_i h2
      obtain ⟨hb, hsn, hpt, hpo, hof, hor, hdl, hen⟩ := hp
      have hhn : headN p.part = 2 ∨ headN p.part = 4 := by unfold headN; split <;> simp
      have hlen : ((p.data.take (size - headN p.part).toNat).length : Int) = size - headN p.part := by
        rw [List.length_take]; omega
      have hbg : begins p.part = true ↔ p.off = 0 := by unfold begins; rw [decide_eq_true_iff]; exact hof
      refine ⟨⟨hb, hsn, ?_, hpo, ?_, hor, ?_, ?_⟩, ?_, ?_⟩
      · show 0 ≤ partOf (begins p.part) false ∧ partOf (begins p.part) false ≤ 3
        unfold partOf; split <;> simp
      · show (partOf (begins p.part) false = 0 ∨ partOf (begins p.part) false = 1) ↔ p.off = 0
        rw [← hbg]; unfold partOf
        cases begins p.part <;> simp
      · show 1 ≤ (p.data.take (size - headN p.part).toNat).length; omega
      · show p.off + ((p.data.take (size - headN p.part).toNat).length : Int) ≤ 2054; omega
      · show p.data.take _ = p.data.take (p.data.take _).length
        rw [List.length_take]
        rcases Nat.le_total (size - headN p.part).toNat p.data.length with h | h
        · rw [Nat.min_eq_left h]
        · rw [Nat.min_eq_right h, List.take_of_length_le h, List.take_of_length_le (Nat.le_refl _)]
      · show 1 ≤ (p.data.take (size - headN p.part).toNat).length; omega
end Go.Sx
/- CHAPTER 23: rows of strings of bytes; their copies; Valid. -/
namespace Go.Sx
open Go.RowKit
structure BL where
  d : List Int
  a : Option Addr
  c : Nat
def encBL (x : BL) : List Value := [.slice x.a x.d.length x.c]
theorem encBL_ok : Enc encBL 1 := ⟨fun _ => rfl, fun _ => rfl⟩
def DaB (L : List BL) (w : World) : Prop := ∀ x ∈ L, SlR (IntC .u8) 1 w x.a x.d ∧ x.d.length ≤ x.c
def QC (w : World) (p : Addr) (d : List Int) : Prop := ∃ a c, cellsAt w p 0 [.slice a d.length c] ∧ SlR (IntC .u8) 1 w a d ∧ d.length ≤ c
abbrev QR (w : World) (a : Option Addr) (Q : List (List Int)) : Prop := SlR QC 1 w a Q
theorem QC.keep {w w' : World} {p : Addr} {x : List Int} (h : QC w p x) (hb : Below w.heap.size w w') : QC w' p x := by
  obtain ⟨a, c, h1, h2, h3⟩ := h
  exact ⟨a, c, cellsAt_keep (fun _ _ hp _ => hb.get hp) h1, h2.below hb, h3⟩
theorem qr_below {w w' : World} {a : Option Addr} {Q : List (List Int)} (h : QR w a Q) (hb : Below w.heap.size w w') : QR w' a Q := h.keep fun _ _ hc => hc.keep hb
theorem DaB.below {w w' : World} {L : List BL} (h : DaB L w) (hb : Below w.heap.size w w') : DaB L w' := fun x hx => ⟨(h x hx).1.below hb, (h x hx).2⟩
theorem qr_up {w : World} {a : Option Addr} {Q : List (List Int)} (h : QR w a Q) : ∃ P : List BL, P.map (·.d) = Q ∧ SlR (CE encBL) 1 w a P ∧ DaB P w := by
  rcases h with rfl | ⟨b, rfl, hb⟩
  · exact ⟨[], rfl, .inl rfl, fun x hx => by simp at hx⟩
  obtain ⟨P, hP, hq⟩ := choose_list (Q := fun i (x : BL) => ∃ h : i < Q.length, x.d = Q[i] ∧ cellsAt w (b.add (i * 1)) 0 (encBL x) ∧ SlR (IntC .u8) 1 w x.a x.d ∧ x.d.length ≤ x.c) Q.length fun i hi => by
    obtain ⟨a, c, h1, h2, h3⟩ := hb i hi
    exact ⟨⟨Q[i], a, c⟩, hi, rfl, h1, h2, h3⟩
  refine ⟨P, ?_, .inr ⟨b, rfl, fun i hi => ?_⟩, fun x hx => ?_⟩
  · apply List.ext_getElem (by simpa using hP)
    intro i h1 h2
    obtain ⟨_, e, _⟩ := hq i (by simpa using h1)
    simpa using e
  · obtain ⟨_, _, e, _⟩ := hq i hi
    exact e
  · obtain ⟨i, hi, rfl⟩ := List.getElem_of_mem hx
    obtain ⟨_, _, _, e⟩ := hq i hi
    exact e
theorem up_qr {w : World} {a : Option Addr} {P : List BL} (h : SlR (CE encBL) 1 w a P) (hd : DaB P w) : QR w a (P.map (·.d)) := by
  rcases h with rfl | ⟨b, rfl, hb⟩
  · exact .inl rfl
  refine .inr ⟨b, rfl, fun i hi => ?_⟩
  have hi' : i < P.length := by simpa using hi
  rw [List.getElem_map]
  exact ⟨P[i].a, P[i].c, hb i hi', (hd _ (List.getElem_mem hi')).1, (hd _ (List.getElem_mem hi')).2⟩
end Go.Sx
namespace Go.Proofs.Ytlgolgpellbnbaa
open Go.Sx Go.RowKit
set_option maxRecDepth 100000
abbrev aggCu (x : Cu) (a : Option Addr) (c : Nat) : Value := .agg #[.int .i64 x.bits, .int .i64 x.next, .slice a x.q.length c, .int .i64 x.sent]
abbrev encCu (x : Cu) (a : Option Addr) (c : Nat) : List Value := [.int .i64 x.bits, .int .i64 x.next, .slice a x.q.length c, .int .i64 x.sent]
theorem unack_sized_ct {b_a : Option Addr} {d : List Int} {b_c : Nat} {w : World} :
    Calls Try.prog N_unack_sized #[(.slice b_a d.length b_c)] w fun e w' => e = .returned (.bool (decide (sizedB d))) ∧ Below w.heap.size w w' := by
  apply F_unack_sized_ok
  unfold F_unack_sized
  have H := St.nil w
  refine bsplit_dec (fun c => ?_) (fun c => ?_)
  · refine kLet_in ?_
    refine ⟨?_, H.below⟩
    congr 2; exact decide_eq_decide.2 ⟨fun h => ⟨by omega, by omega⟩, fun h => by have := h.2; omega⟩
  · refine ⟨?_, H.below⟩
    rw [decide_eq_false fun h : sizedB d => c (by have := h.1; omega)]
theorem unack_bitsValid_ct {bits : Int} {w : World} :
    Calls Try.prog N_unack_bitsValid #[(.int .i64 bits)] w fun e w' => e = .returned (.bool (decide (bitsOk bits))) ∧ Below w.heap.size w w' := by
  apply F_unack_bitsValid_ok
  unfold F_unack_bitsValid
  have H := St.nil w
  refine bsplit_dec (fun c => ?_) (fun c => ?_)
  · refine kLet_in ?_
    refine ⟨?_, H.below⟩
    congr 2; exact decide_eq_decide.2 ⟨fun h => ⟨by omega, by omega⟩, fun h => by have := h.2; omega⟩
  · refine ⟨?_, H.below⟩
    rw [decide_eq_false fun h : bitsOk bits => c (by have := h.1; omega)]
theorem ref23_bits_ct {n : Int} {w : World} :
    Calls Try.prog N_ref23_bits #[(.int .i64 n)] w fun e w' => e = .returned (.bool (decide (bitsOk n))) ∧ Below w.heap.size w w' := by
  apply F_ref23_bits_ok
  unfold F_ref23_bits
  have H := St.nil w
  refine bsplit_dec (fun c => ?_) (fun c => ?_)
  · refine kLet_in ?_
    refine ⟨?_, H.below⟩
    congr 2; exact decide_eq_decide.2 ⟨fun h => ⟨by omega, by omega⟩, fun h => by have := h.2; omega⟩
  · refine ⟨?_, H.below⟩
    rw [decide_eq_false fun h : bitsOk n => c (by have := h.1; omega)]
theorem clone_list {L : List BL} {s_a : Option Addr} {s_c : Nat} {w : World} (hs : SlR (CE encBL) 1 w s_a L) (hl : L.length ≤ 5864062014805) :
    Calls Try.prog N_slices_Clone_SSbyte_Sbyte #[(.slice s_a L.length s_c)] w fun e w' => ∃ ra rc, e = .returned (.slice ra L.length rc) ∧ FreshR w w' [.els encBL Ty_S_uint8 1 ra rc L] := by
  apply F_slices_Clone_SSbyte_Sbyte_ok
  unfold F_slices_Clone_SSbyte_Sbyte
  have H := St.nil w
  cases s_a with
  | none =>
    obtain rfl : L = [] := by
      rcases hs with h | ⟨b, hb, _⟩
      · exact h
      · cases hb
    exact ⟨none, 0, rfl, H.nilE encBL Ty_S_uint8 1⟩
  | some p =>
    refine bsplit_intro (fun h => by cases h) (fun _ => ?_)
    refine H.alloc ?_; clear H; intro b w1 H1
    have H1 := H1.litE encBL_ok (i := 0) [] rfl (by decide)
    refine H1.appE encBL_ok (i := 0) rfl sl_Ty_S_S_uint8 (hs.belowE H1.below) (by simp; omega) (by simp; omega) ?_; intro x_a x_c w2 H2
    exact ⟨x_a, x_c, rfl, H2⟩
/-- a list of strings of bytes: a new row, and new strings -/
def RetQl (w : World) (Q : List (List Int)) (e : Ending) (w' : World) : Prop :=
  ∃ a c L, L.map (·.d) = Q ∧ e = .returned (.slice a Q.length c) ∧ St (fun _ => False) [] w w' [.els encBL Ty_S_uint8 1 a c L] (DaB L)
def SmQ (Q : List (List Int)) : Prop := Q.length ≤ 5864062014805 ∧ ∀ d ∈ Q, d.length ≤ 140737488355328
theorem own_List_ct {Q : List (List Int)} {l_a : Option Addr} {l_c : Nat} {w : World} (hQ : QR w l_a Q) (hm : SmQ Q) :
    Calls Try.prog N_own_List #[(.slice l_a Q.length l_c)] w (RetQl w Q) := by
  apply F_own_List_ok
  unfold F_own_List
  have H := St.nil w
  obtain ⟨L0, hL0, hs0, hd0⟩ := qr_up hQ
  have hlen : L0.length = Q.length := by rw [← hL0, List.length_map]
  have hm1 := hm.1
  rw [← hlen]
  refine (clone_list hs0 (by omega)).mono ?_
  rintro _ w1 ⟨ua, uc, rfl, K⟩; have H1 := H.callR K; clear H
  simp only [List.nil_append] at H1
  refine ⟨_, _, _, rfl, ?_⟩
  refine ⟨fun x => ((L0.length - x).toNat, fun w2 => ∃ (k : Nat) (L : List BL), x = k ∧ k ≤ L0.length ∧ L.map (·.d) = Q ∧ L.drop k = L0.drop k ∧
    St (fun _ => False) [] w w2 [.els encBL Ty_S_uint8 1 ua uc L] (DaB (L.take k))), ⟨0, L0, rfl, by omega, hL0, rfl, H1.imp fun _ _ => fun x hx => by simp at hx⟩, ?_⟩
  clear H1 K
  rintro _ x w2 ⟨k, L, rfl, hk, hL, hdr, H2⟩
  have hlen2 : L.length = L0.length := by rw [hlen, ← hL, List.length_map]
  refine bsplit_dec (fun c => ?_) (fun c => ?_)
  · have hlt : k < L.length := by omega
    have hlt0 : k < L0.length := by omega
    have hx0 : L[k] = L0[k] := by
      have h1 := List.drop_eq_getElem_cons hlt
      have h2 := List.drop_eq_getElem_cons hlt0
      rw [h1, h2] at hdr
      injection hdr
    obtain ⟨x, hx⟩ : ∃ x, x = L[k] := ⟨_, rfl⟩
    have hmem : x ∈ L0 := by rw [hx, hx0]; exact List.getElem_mem _
    have hmu : x.d ∈ Q := by rw [← hL0]; exact List.mem_map.2 ⟨x, hmem, rfl⟩
    obtain ⟨g, rfl, hg1, hg2⟩ := H2.rowSome (i := 0) rfl (by omega)
    refine kIx_at ⟨by omega, by omega⟩ ?_
    rw [add_mk, Nat.zero_add, Int.toNat_natCast]
    have c1 := H2.cellEl encBL_ok (i := 0) rfl hlt (j := 0) (v := .slice x.a x.d.length x.c) (by decide) (by rw [← hx]; rfl)
    refine ⟨_, _, _, c1, ?_⟩
    refine (clone_bytes ((hd0 x hmem).1.below H2.below) (hm.2 _ hmu)).mono ?_
    rintro _ w3 ⟨ra, rc, rfl, K3⟩
    have H3 := H2.callR K3
    have hcap := H3.capI (i := 1) rfl
    replace H3 := St.shareLast (R := [.els encBL Ty_S_uint8 1 (some ⟨g, 0, none⟩) uc L]) H3
    refine ⟨_, _, _, rfl, ?_⟩
    refine kIx_at ⟨by omega, by omega⟩ ?_
    try rw [add_mk, Nat.zero_add]
    refine H3.setEl encBL_ok (i := 0) rfl hlt (j := 0) (by decide) ⟨x.d, ra, rc⟩ (by rw [← hx]; rfl) ?_
    intro w4 f4 H4
    refine kW_i64 (by omega) ?_
    refine ⟨⟨k + 1, L.set k ⟨x.d, ra, rc⟩, by omega, by omega, ?_, ?_, H4.imp fun w h => ?_⟩, by dsimp only; omega⟩
    · rw [List.map_set, hL]
      apply List.ext_getElem?
      intro i
      by_cases hi : k = i
      · subst hi
        rw [List.getElem?_set_self (by rw [← hlen, ← hlen2]; exact hlt)]
        rw [← hL, List.getElem?_map, List.getElem?_eq_getElem hlt, hx]; rfl
      · rw [List.getElem?_set_ne hi]
    · rw [drop_set_end]
      have h1 := List.drop_eq_getElem_cons hlt
      have h2 := List.drop_eq_getElem_cons hlt0
      rw [h1, h2] at hdr
      injection hdr
    · intro y hy
      rw [take_set_end hlt] at hy
      rcases List.mem_append.1 hy with hy | hy
      · exact h.2 y hy
      · obtain rfl : y = ⟨x.d, ra, rc⟩ := by simpa using hy
        exact ⟨(ints_ok h.1).sl, hcap⟩
  · have e : L.take k = L := List.take_of_length_le (by omega)
    rw [e] at H2
    exact ⟨ua, uc, L, hL, by rw [← hlen], H2⟩
/-- a sending side: a new row, and new strings -/
def RetCu (w : World) (x : Cu) (mk : Value → Value) (e : Ending) (w' : World) : Prop :=
  ∃ a c L, L.map (·.d) = x.q ∧ e = .returned (mk (aggCu x a c)) ∧ St (fun _ => False) [] w w' [.els encBL Ty_S_uint8 1 a c L] (DaB L)
section
variable {x : Cu} {a : Option Addr} {c : Nat} {w : World}
theorem own_Cutter_ct (hQ : QR w a x.q) (hm : SmQ x.q) :
    Calls Try.prog N_own_Cutter #[aggCu x a c] w (RetCu w x fun v => v) := by
  apply F_own_Cutter_ok
  unfold F_own_Cutter
  have H := St.nil w
  refine H.alloc ?_; clear H; intro b w1 H1
  refine H1.alloc ?_; clear H1; intro b1 w2 H2
  refine H2.ldS (i := 0) rfl rfl ?_
  refine (own_List_ct (qr_below hQ H2.below) hm).mono ?_
  rintro _ w3 ⟨ua, uc, L, hL, rfl, K⟩; have H3 := H2.callF K; clear H2 K
  simp only [List.cons_append, List.nil_append] at H3
  refine ⟨_, _, _, rfl, ?_⟩
  refine H3.set (i := 0) rfl (by show 2 < 4; decide) ?_; clear H3; intro w4 H4
  refine ⟨_, _, _, _, _, _, H4.cells (i := 0) rfl, ?_⟩
  refine H4.store (i := 1) rfl (by rfl) (by rfl) ?_; clear H4; intro w5 H5
  refine ⟨_, _, _, _, _, _, H5.cells (i := 1) rfl, ?_⟩
  exact ⟨ua, uc, L, hL, rfl, (St.skip (X := []) (St.skip (X := []) H5)).imp fun _ h => h.1⟩
end
end Go.Proofs.Ytlgolgpellbnbaa
/- CHAPTER 23: Valid, Waiting; equal lists of strings. -/
namespace Go.Proofs.Ytlgolgpellbnbaa
open Go.Sx Go.RowKit
set_option maxRecDepth 100000
section
variable {L : List (List Int)} {a : Option Addr} {c g : Nat} {ff fc : Array Value} {w : World}
theorem indexFuncQ_ct (hs : QR w a L) (hl : L.length ≤ 140737488355328) (p : List Int → Bool) (hok : okFn Try.prog g = true)
    (hf : ∀ (w' : World) (x : List Int) (a1 : Option Addr) (c1 : Nat), x ∈ L → Below w.heap.size w w' → Calls Try.prog g (ff ++ #[.slice a1 x.length c1] ++ fc) w' fun e w'' => e = .returned (.bool (p x)) ∧ Below w'.heap.size w' w'') :
    Calls Try.prog N_slices_IndexFunc_SSbyte_Sbyte #[(.slice a L.length c), .func (.func g) ff fc] w fun e w' => e = .returned (.int .i64 (idx p L)) ∧ Below w.heap.size w w' := by
  apply F_slices_IndexFunc_SSbyte_Sbyte_ok
  unfold F_slices_IndexFunc_SSbyte_Sbyte
  have H := St.nil w
  refine ⟨fun x => ((L.length - x).toNat, fun w1 => ∃ k : Nat, x = k ∧ k ≤ L.length ∧ (∀ j (hj : j < L.length), j < k → p L[j] = false) ∧ FreshR w w1 []), ⟨0, rfl, by omega, fun j _ h => by omega, H⟩, ?_⟩
  clear H
  rintro _ x w1 ⟨k, rfl, hk, hno, H1⟩
  refine bsplit_dec (fun c1 => ?_) (fun c1 => ?_)
  · have hlt : k < L.length := by omega
    refine ixE (qr_below hs H1.below) k rfl hlt fun b x hx hb => ?_
    obtain rfl : L[k] = x := by rw [List.getElem?_eq_getElem hlt] at hx; exact Option.some.inj hx
    obtain ⟨a1, c1, hb, _, _⟩ := hb
    refine ⟨_, _, _, hb.1, ?_⟩
    refine ⟨hok, ?_⟩
    refine (hf w1 _ a1 c1 (List.getElem_mem hlt) H1.below).mono ?_
    rintro _ w2 ⟨rfl, hb2⟩; have H2 := H1.pass hb2; clear H1
    refine ⟨_, rfl, ?_⟩
    refine bsplit_intro (fun c => ?_) (fun c => ?_)
    · exact ⟨by rw [idx_at hlt hno c], H2.below⟩
    · refine kW_i64 (by omega) ?_
      exact ⟨⟨k + 1, by omega, by omega, fun j hj h => by
        rcases Nat.lt_or_ge j k with h' | h'
        · exact hno j hj h'
        · obtain rfl : j = k := by omega
          exact c, H2⟩, by dsimp only; omega⟩
  · obtain rfl : k = L.length := by omega
    exact ⟨by rw [idx_no fun j hj => hno j hj hj], H1.below⟩
theorem containsFuncQ_ct (hs : QR w a L) (hl : L.length ≤ 140737488355328) (p : List Int → Bool) (hok : okFn Try.prog g = true)
    (hf : ∀ (w' : World) (x : List Int) (a1 : Option Addr) (c1 : Nat), x ∈ L → Below w.heap.size w w' → Calls Try.prog g (ff ++ #[.slice a1 x.length c1] ++ fc) w' fun e w'' => e = .returned (.bool (p x)) ∧ Below w'.heap.size w' w'') :
    Calls Try.prog N_slices_ContainsFunc_SSbyte_Sbyte #[(.slice a L.length c), .func (.func g) ff fc] w fun e w' => e = .returned (.bool (L.any p)) ∧ Below w.heap.size w w' := by
  apply F_slices_ContainsFunc_SSbyte_Sbyte_ok
  unfold F_slices_ContainsFunc_SSbyte_Sbyte
  refine (indexFuncQ_ct hs hl p hok hf).mono ?_
  rintro _ w1 ⟨rfl, hb1⟩
  refine ⟨_, rfl, ?_⟩
  refine kLet_in ?_
  exact ⟨by rw [idx_any], hb1⟩
end
theorem valid_1_ct {d : List Int} {a : Option Addr} {c : Nat} {w : World} :
    Calls Try.prog N_unack_Valid_1 #[(.slice a d.length c)] w fun e w' => e = .returned (.bool (!decide (sizedB d))) ∧ Below w.heap.size w w' := by
  apply F_unack_Valid_1_ok
  unfold F_unack_Valid_1
  refine unack_sized_ct.mono ?_
  rintro _ w1 ⟨rfl, hb1⟩
  refine ⟨_, rfl, ?_⟩
  exact ⟨rfl, hb1⟩
section
variable {x : Cu} {a : Option Addr} {c : Nat} {w : World}
theorem unack_Valid_ct (hQ : QR w a x.q) (hm : SmQ x.q) :
    Calls Try.prog N_unack_Valid #[aggCu x a c] w fun e w' => e = .returned (.bool (decide (cuOk x))) ∧ Below w.heap.size w w' := by
  apply F_unack_Valid_ok
  unfold F_unack_Valid
  have H := St.nil w
  refine H.alloc ?_; clear H; intro b w1 H1
  refine ⟨fun x6 w4 => (x6 = true ↔ ¬ (bitsOk x.bits ∧ (0 ≤ x.next ∧ x.next < 2 ^ x.bits.toNat) ∧ x.q.length ≤ 256 ∧ 0 ≤ x.sent)) ∧ FreshR w w4 [.blk b Ty_api_Cutter (encCu x a c)], ?_, ?_⟩
  · rintro _ x6 w4 ⟨hj, H4⟩
    refine bsplit_intro (fun c7 => ?_) (fun c7 => ?_)
    · refine ⟨?_, H4.below⟩
      rw [decide_eq_false fun h : cuOk x => hj.1 c7 ⟨h.1, h.2.1, h.2.2.1, h.2.2.2.1⟩]
    · have hh : bitsOk x.bits ∧ (0 ≤ x.next ∧ x.next < 2 ^ x.bits.toNat) ∧ x.q.length ≤ 256 ∧ 0 ≤ x.sent := by
        rw [c7] at hj
        by_cases h : bitsOk x.bits ∧ (0 ≤ x.next ∧ x.next < 2 ^ x.bits.toNat) ∧ x.q.length ≤ 256 ∧ 0 ≤ x.sent
        · exact h
        · exact absurd (hj.2 h) (by decide)
      obtain ⟨h1, h2, h3, h4⟩ := hh
      refine H4.ldS (i := 0) rfl rfl ?_
      refine (containsFuncQ_ct (ff := #[]) (fc := #[]) (qr_below hQ H4.below) (by omega) (fun d => !decide (sizedB d)) (by kernel_rfl) fun w' d a1 c1 _ _ => valid_1_ct).mono ?_
      rintro _ w5 ⟨rfl, hb5⟩; have H5 := H4.pass hb5; clear H4
      refine ⟨_, rfl, ?_⟩
      refine bsplit_intro (fun c6 => ?_) (fun c6 => ?_)
      · refine ⟨?_, H5.below⟩
        obtain ⟨d, hd, hd2⟩ := List.any_eq_true.1 c6
        rw [decide_eq_false fun h : cuOk x => by
          have := h.2.2.2.2.1 d hd
          simp [this] at hd2]
      · have h5 : ∀ d ∈ x.q, sizedB d := fun d hd => by
          have := List.any_eq_false.1 c6 d hd
          simpa using this
        refine H5.drew ?_; clear H5; intro w6 H6
        refine H6.ld (i := 0) rfl rfl ?_
        refine bsplit_dec (fun c5 => ?_) (fun c5 => ?_)
        · refine ⟨?_, H6.below⟩
          rw [decide_eq_true (show cuOk x from ⟨h1, h2, h3, h4, h5, by
            unfold headOk
            cases hq : x.q with
            | nil => exact c5
            | cons d l => have := (h5 d (by rw [hq]; simp)).1; show x.sent < d.length; omega⟩)]
        · refine H6.ldS (i := 0) rfl rfl ?_
          refine bsplit_dec (fun c4 => ?_) (fun c4 => ?_)
          · refine H6.ld (i := 0) rfl rfl ?_
            refine H6.ldS (i := 0) rfl rfl ?_
            refine ixE (qr_below hQ H6.below) 0 rfl (by omega) fun b1 d hd hb1 => ?_
            obtain ⟨a1, c1, hb, _, _⟩ := hb1
            refine ⟨_, _, _, hb.1, ?_⟩
            refine kLet_in ?_
            refine ⟨?_, H6.below⟩
            congr 2
            refine decide_eq_decide.2 ⟨fun h => ⟨h1, h2, h3, h4, h5, ?_⟩, fun h => ?_⟩
            · unfold headOk
              cases hq : x.q with
              | nil => rw [hq] at hd; simp at hd
              | cons e l => rw [hq] at hd; obtain rfl : e = d := by simpa using hd
                            exact h
            · have h := h.2.2.2.2.2
              unfold headOk at h
              cases hq : x.q with
              | nil => rw [hq] at hd; simp at hd
              | cons e l => rw [hq] at hd h; obtain rfl : e = d := by simpa using hd
                            exact h
          · refine ⟨?_, H6.below⟩
            rw [decide_eq_false fun h : cuOk x => by
              have h := h.2.2.2.2.2
              unfold headOk at h
              have hq : x.q = [] := List.eq_nil_of_length_eq_zero (by omega)
              rw [hq] at h
              exact c5 h]
  · refine H1.drew ?_; clear H1; intro w2 H2
    refine ⟨(· < w2.heap.size), ?_⟩
    refine H2.ld (i := 0) rfl rfl ?_
    refine unack_bitsValid_ct.mono ?_
    rintro _ w3 ⟨rfl, hb3⟩; have H3 := H2.pass hb3
    refine ⟨_, rfl, ?_⟩
    refine ⟨hb3.keeps, ?_⟩
    refine bsplit_nd (fun c3 => ?_) (fun c3 => ?_)
    · exact ⟨⟨fun _ h => c3 h.1, fun _ => rfl⟩, H3⟩
    · obtain ⟨hb1, hb2⟩ := c3
      have c3 : bitsOk x.bits := ⟨hb1, hb2⟩
      refine ⟨H2.lt (i := 0) rfl rfl, ?_⟩
      refine H2.ld (i := 0) rfl rfl ?_
      refine bsplit_dec (fun c2 => ?_) (fun c2 => ?_)
      · exact ⟨⟨fun _ h => by have := h.2.1.1; omega, fun _ => rfl⟩, H3⟩
      · refine ⟨H2.lt (i := 0) rfl rfl, ?_⟩
        refine H2.ld (i := 0) rfl rfl ?_
        refine ⟨H2.lt (i := 0) rfl rfl, ?_⟩
        refine H2.ld (i := 0) rfl rfl ?_
        refine ⟨by omega, ?_⟩
        refine kShl1 (by omega) ?_
        refine bsplit_dec (fun c1 => ?_) (fun c1 => ?_)
        · exact ⟨⟨fun _ h => by have := h.2.1.2; omega, fun _ => rfl⟩, H3⟩
        · refine ⟨H2.lt (i := 0) rfl rfl, ?_⟩
          refine H2.ldS (i := 0) rfl rfl ?_
          refine bsplit_dec (fun c => ?_) (fun c => ?_)
          · exact ⟨⟨fun _ h => by have := h.2.2.1; omega, fun _ => rfl⟩, H3⟩
          · refine ⟨H2.lt (i := 0) rfl rfl, ?_⟩
            refine H2.ld (i := 0) rfl rfl ?_
            exact ⟨⟨fun h hh => by have := hh.2.2.2; have := of_decide_eq_true h; omega, fun h => decide_eq_true (by
              rcases Int.lt_or_le x.sent 0 with h' | h'
              · exact h'
              · exact absurd ⟨c3, ⟨by omega, by omega⟩, by omega, h'⟩ h)⟩, H3⟩
theorem unack_Waiting_ct (hQ : QR w a x.q) (hm : SmQ x.q) :
    Calls Try.prog N_unack_Waiting #[aggCu x a c] w fun e w' => e = .returned (.int .i64 (waitC x)) ∧ Below w.heap.size w w' := by
  apply F_unack_Waiting_ok
  unfold F_unack_Waiting
  have H := St.nil w
  refine H.alloc ?_; clear H; intro b w1 H1
  refine ⟨_, _, _, _, _, _, H1.cells (i := 0) rfl, ?_⟩
  refine (unack_Valid_ct (qr_below hQ H1.below) hm).mono ?_
  rintro _ w2 ⟨rfl, hb2⟩; have H2 := H1.pass hb2; clear H1
  refine ⟨_, rfl, ?_⟩
  refine bsplit_nd (fun c1 => ?_) (fun c1 => ?_)
  · exact ⟨by unfold waitC; rw [if_pos c1], H2.below⟩
  · have hk := wait_fit c1
    have hq256 : x.q.length ≤ 256 := c1.2.2.1
    refine H2.ld (i := 0) rfl rfl ?_
    refine kW_i64 (by have := hk.1; omega) ?_
    refine H2.ldS (i := 0) rfl rfl ?_
    refine ⟨fun n x2 => ((x.q.length - x2).toNat, fun w3 => ∃ k : Nat, x2 = k ∧ k ≤ x.q.length ∧ n = sumL (x.q.take k) - x.sent ∧ FreshR w w3 [.blk b Ty_api_Cutter (encCu x a c)]), ⟨0, rfl, by omega, by simp [sumL], H2⟩, ?_⟩
    clear H2
    rintro _ n x2 w3 ⟨k, rfl, hk1, rfl, H3⟩
    refine bsplit_dec (fun c2 => ?_) (fun c2 => ?_)
    · have hlt : k < x.q.length := by omega
      refine ixE (qr_below hQ H3.below) k rfl hlt fun b1 d hd hb1 => ?_
      obtain rfl : x.q[k] = d := by rw [List.getElem?_eq_getElem hlt] at hd; exact Option.some.inj hd
      obtain ⟨a1, c1', hb, _, _⟩ := hb1
      refine ⟨_, _, _, hb.1, ?_⟩
      have e : sumL (x.q.take (k + 1)) = sumL (x.q.take k) + x.q[k].length := by rw [List.take_succ_eq_append_getElem hlt, sumL_snoc]
      have h1 := hk.2 (k + 1)
      have h2 := hk.2 k
      have h3 := sumL_nn (x.q.take k)
      refine kW_i64 (by omega) ?_
      refine kW_i64 (by omega) ?_
      exact ⟨⟨k + 1, by omega, by omega, by rw [e]; omega, H3⟩, by dsimp only; omega⟩
    · obtain rfl : k = x.q.length := by omega
      rw [List.take_length]
      exact ⟨by unfold waitC; rw [if_neg (fun h => h c1)], H3.below⟩
theorem ref23_Valid_ct (hQ : QR w a x.q) (hm : SmQ x.q) :
    Calls Try.prog N_ref23_Valid #[aggCu x a c] w fun e w' => e = .returned (.bool (decide (cuOk x))) ∧ Below w.heap.size w w' := by
  apply F_ref23_Valid_ok
  unfold F_ref23_Valid
  have H := St.nil w
  refine H.alloc ?_; clear H; intro b w1 H1
  refine ⟨fun x6 w4 => (x6 = true ↔ ¬ (bitsOk x.bits ∧ (0 ≤ x.next ∧ x.next < 2 ^ x.bits.toNat) ∧ x.q.length ≤ 256 ∧ 0 ≤ x.sent)) ∧ FreshR w w4 [.blk b Ty_api_Cutter (encCu x a c)], ?_, ?_⟩
  · rintro _ x6 w4 ⟨hj, H4⟩
    refine bsplit_intro (fun c7 => ?_) (fun c7 => ?_)
    · refine ⟨?_, H4.below⟩
      rw [decide_eq_false fun h : cuOk x => hj.1 c7 ⟨h.1, h.2.1, h.2.2.1, h.2.2.2.1⟩]
    · have hh : bitsOk x.bits ∧ (0 ≤ x.next ∧ x.next < 2 ^ x.bits.toNat) ∧ x.q.length ≤ 256 ∧ 0 ≤ x.sent := by
        rw [c7] at hj
        by_cases h : bitsOk x.bits ∧ (0 ≤ x.next ∧ x.next < 2 ^ x.bits.toNat) ∧ x.q.length ≤ 256 ∧ 0 ≤ x.sent
        · exact h
        · exact absurd (hj.2 h) (by decide)
      obtain ⟨h1, h2, h3, h4⟩ := hh
      refine ⟨fun i => ((x.q.length - i).toNat, fun w4 => ∃ k : Nat, i = k ∧ k ≤ x.q.length ∧ (∀ j (hj : j < x.q.length), j < k → sizedB x.q[j]) ∧ FreshR w w4 [.blk b Ty_api_Cutter (encCu x a c)]), ⟨0, rfl, by omega, fun j _ h => by omega, H4⟩, ?_⟩
      clear H4
      rintro _ i w4 ⟨k, rfl, hk, hno, H4⟩
      refine H4.ldS (i := 0) rfl rfl ?_
      refine bsplit_dec (fun c7 => ?_) (fun c7 => ?_)
      · have hlt : k < x.q.length := by omega
        refine H4.ldS (i := 0) rfl rfl ?_
        refine ixE (qr_below hQ H4.below) k rfl hlt fun b1 d hd hb1 => ?_
        obtain rfl : x.q[k] = d := by rw [List.getElem?_eq_getElem hlt] at hd; exact Option.some.inj hd
        obtain ⟨a1, c1', hb, _, _⟩ := hb1
        refine ⟨_, _, _, hb.1, ?_⟩
        refine bsplit_dec (fun c5 => ?_) (fun c5 => ?_)
        · refine ⟨?_, H4.below⟩
          rw [decide_eq_false fun h : cuOk x => by have := (h.2.2.2.2.1 _ (List.getElem_mem hlt)).1; omega]
        · refine H4.ldS (i := 0) rfl rfl ?_
          refine ixE (qr_below hQ H4.below) k rfl hlt fun b2 d2 hd2 hb2 => ?_
          obtain rfl : x.q[k] = d2 := by rw [List.getElem?_eq_getElem hlt] at hd2; exact Option.some.inj hd2
          obtain ⟨a2, c2', hb2, _, _⟩ := hb2
          refine ⟨_, _, _, hb2.1, ?_⟩
          refine bsplit_dec (fun c4 => ?_) (fun c4 => ?_)
          · refine ⟨?_, H4.below⟩
            rw [decide_eq_false fun h : cuOk x => by have := (h.2.2.2.2.1 _ (List.getElem_mem hlt)).2; omega]
          · refine kW_i64 (by omega) ?_
            exact ⟨⟨k + 1, by omega, by omega, fun j hj h => by
              rcases Nat.lt_or_ge j k with h' | h'
              · exact hno j hj h'
              · obtain rfl : j = k := by omega
                exact ⟨by omega, by omega⟩, H4⟩, by dsimp only; omega⟩
      · obtain rfl : k = x.q.length := by omega
        have h5 : ∀ d ∈ x.q, sizedB d := fun d hd => by
          obtain ⟨j, hj, rfl⟩ := List.getElem_of_mem hd
          exact hno j hj hj
        refine H4.ldS (i := 0) rfl rfl ?_
        refine bsplit_dec (fun c6 => ?_) (fun c6 => ?_)
        · refine H4.ld (i := 0) rfl rfl ?_
          refine kLet_in ?_
          refine ⟨?_, H4.below⟩
          have hq : x.q = [] := List.eq_nil_of_length_eq_zero (by omega)
          congr 2
          refine decide_eq_decide.2 ⟨fun h => ⟨h1, h2, h3, h4, h5, ?_⟩, fun h => ?_⟩
          · unfold headOk; rw [hq]; exact h
          · have h := h.2.2.2.2.2
            unfold headOk at h; rw [hq] at h; exact h
        · refine H4.drew ?_; clear H4; intro w5 H5
          refine H5.ld (i := 0) rfl rfl ?_
          refine H5.ldS (i := 0) rfl rfl ?_
          refine ixE (qr_below hQ H5.below) 0 rfl (by omega) fun b1 d hd hb1 => ?_
          obtain ⟨a1, c1', hb, _, _⟩ := hb1
          refine ⟨_, _, _, hb.1, ?_⟩
          refine kLet_in ?_
          refine ⟨?_, H5.below⟩
          congr 2
          refine decide_eq_decide.2 ⟨fun h => ⟨h1, h2, h3, h4, h5, ?_⟩, fun h => ?_⟩
          · unfold headOk
            cases hq : x.q with
            | nil => rw [hq] at hd; simp at hd
            | cons e l => rw [hq] at hd; obtain rfl : e = d := by simpa using hd
                          exact h
          · have h := h.2.2.2.2.2
            unfold headOk at h
            cases hq : x.q with
            | nil => rw [hq] at hd; simp at hd
            | cons e l => rw [hq] at hd h; obtain rfl : e = d := by simpa using hd
                          exact h
  · refine H1.ld (i := 0) rfl rfl ?_
    refine ref23_bits_ct.mono ?_
    rintro _ w2 ⟨rfl, hb2⟩; have H2 := H1.pass hb2; clear H1
    refine ⟨_, rfl, ?_⟩
    refine bsplit_nd (fun c3 => ?_) (fun c3 => ?_)
    · exact ⟨⟨fun _ h => c3 h.1, fun _ => rfl⟩, H2⟩
    · obtain ⟨hb1, hb2⟩ := c3
      have c3 : bitsOk x.bits := ⟨hb1, hb2⟩
      refine H2.ld (i := 0) rfl rfl ?_
      refine bsplit_dec (fun c2 => ?_) (fun c2 => ?_)
      · exact ⟨⟨fun _ h => by have := h.2.1.1; omega, fun _ => rfl⟩, H2⟩
      · refine H2.ld (i := 0) rfl rfl ?_
        refine H2.ld (i := 0) rfl rfl ?_
        refine kW_u64 (by omega) ?_
        refine ⟨by omega, ?_⟩
        refine kShl1 (by omega) ?_
        refine bsplit_dec (fun c1 => ?_) (fun c1 => ?_)
        · exact ⟨⟨fun _ h => by have := h.2.1.2; omega, fun _ => rfl⟩, H2⟩
        · refine H2.ldS (i := 0) rfl rfl ?_
          refine bsplit_dec (fun c => ?_) (fun c => ?_)
          · exact ⟨⟨fun _ h => by have := h.2.2.1; omega, fun _ => rfl⟩, H2⟩
          · refine H2.ld (i := 0) rfl rfl ?_
            exact ⟨⟨fun h hh => by have := hh.2.2.2; have := of_decide_eq_true h; omega, fun h => decide_eq_true (by
              rcases Int.lt_or_le x.sent 0 with h' | h'
              · exact h'
              · exact absurd ⟨c3, ⟨by omega, by omega⟩, by omega, h'⟩ h)⟩, H2⟩
theorem ref23_Waiting_ct (hQ : QR w a x.q) (hm : SmQ x.q) :
    Calls Try.prog N_ref23_Waiting #[aggCu x a c] w fun e w' => e = .returned (.int .i64 (waitC x)) ∧ Below w.heap.size w w' := by
  apply F_ref23_Waiting_ok
  unfold F_ref23_Waiting
  have H := St.nil w
  refine H.alloc ?_; clear H; intro b w1 H1
  refine ⟨_, _, _, _, _, _, H1.cells (i := 0) rfl, ?_⟩
  refine (ref23_Valid_ct (qr_below hQ H1.below) hm).mono ?_
  rintro _ w2 ⟨rfl, hb2⟩; have H2 := H1.pass hb2; clear H1
  refine ⟨_, rfl, ?_⟩
  refine bsplit_nd (fun c1 => ?_) (fun c1 => ?_)
  · exact ⟨by unfold waitC; rw [if_pos c1], H2.below⟩
  · have hk := wait_fit c1
    have hq256 : x.q.length ≤ 256 := c1.2.2.1
    refine H2.ld (i := 0) rfl rfl ?_
    refine kW_i64 (by have := hk.1; omega) ?_
    refine ⟨fun n x2 => ((x.q.length - x2).toNat, fun w3 => ∃ k : Nat, x2 = k ∧ k ≤ x.q.length ∧ n = sumL (x.q.take k) - x.sent ∧ FreshR w w3 [.blk b Ty_api_Cutter (encCu x a c)]), ⟨0, rfl, by omega, by simp [sumL], H2⟩, ?_⟩
    clear H2
    rintro _ n x2 w3 ⟨k, rfl, hk1, rfl, H3⟩
    refine H3.ldS (i := 0) rfl rfl ?_
    refine bsplit_dec (fun c2 => ?_) (fun c2 => ?_)
    · have hlt : k < x.q.length := by omega
      refine H3.ldS (i := 0) rfl rfl ?_
      refine ixE (qr_below hQ H3.below) k rfl hlt fun b1 d hd hb1 => ?_
      obtain rfl : x.q[k] = d := by rw [List.getElem?_eq_getElem hlt] at hd; exact Option.some.inj hd
      obtain ⟨a1, c1', hb, _, _⟩ := hb1
      refine ⟨_, _, _, hb.1, ?_⟩
      have e : sumL (x.q.take (k + 1)) = sumL (x.q.take k) + x.q[k].length := by rw [List.take_succ_eq_append_getElem hlt, sumL_snoc]
      have h1 := hk.2 (k + 1)
      have h2 := hk.2 k
      have h3 := sumL_nn (x.q.take k)
      refine kW_i64 (by omega) ?_
      refine kW_i64 (by omega) ?_
      exact ⟨⟨k + 1, by omega, by omega, by rw [e]; omega, H3⟩, by dsimp only; omega⟩
    · obtain rfl : k = x.q.length := by omega
      rw [List.take_length]
      exact ⟨by unfold waitC; rw [if_neg (fun h => h c1)], H3.below⟩
end
end Go.Proofs.Ytlgolgpellbnbaa
/- CHAPTER 23: Submit, New. -/
namespace Go.Proofs.Ytlgolgpellbnbaa
open Go.Sx Go.RowKit
set_option maxRecDepth 100000
/-- a sending side that may be read -/
def RetCF (w : World) (x : Cu) (mk : Value → Value) (e : Ending) (w' : World) : Prop :=
  ∃ a c, e = .returned (mk (aggCu x a c)) ∧ Fresh w w' fun w => QR w a x.q
abbrev QL (L : List BL) (a : Option Addr) (w : World) : Prop := SlR (CE encBL) 1 w a L ∧ DaB L w
theorem QL.qr {L : List BL} {a : Option Addr} {w : World} (h : QL L a w) : QR w a (L.map (·.d)) := up_qr h.1 h.2
def RetCA (A : Nat → Prop) (w : World) (x : Cu) (mk : Value → Value) (e : Ending) (w' : World) : Prop :=
  ∃ a c L, L.map (·.d) = x.q ∧ e = .returned (mk (aggCu x a c)) ∧ x.q.length ≤ c ∧ St A [] w w' [] fun w => QL L a w
theorem qr_held {w : World} {a : Option Addr} {Q : List (List Int)} (h : QR w a Q) : Held (All w) w fun w => QR w a Q := by
  obtain ⟨P, rfl, hs, hd⟩ := qr_up h
  refine ⟨fun _ h => h, fun w' hw => ?_⟩
  refine up_qr ((sle_held hs).2 w' hw) fun x hx => ⟨(slr_held (hd x hx).1).2 w' hw, (hd x hx).2⟩
section
variable {x : Cu} {a : Option Addr} {c : Nat} {w : World} {d : List Int} {da : Option Addr} {dc : Nat}
theorem unack_Submit_ct (hQ : QR w a x.q) (hm : SmQ x.q) (hd : SlR (IntC .u8) 1 w da d) (hdl : d.length ≤ 140737488355328) :
    Calls Try.prog N_unack_Submit #[aggCu x a c, .slice da d.length dc] w (RetCF w (subC x d).1 fun v => .tuple #[v, .int .i64 (subC x d).2]) := by
  apply F_unack_Submit_ok
  unfold F_unack_Submit
  have H := St.nil w
  refine H.alloc ?_; clear H; intro b w1 H1
  refine H1.alloc ?_; clear H1; intro b1 w2 H2
  refine ⟨_, _, _, _, _, _, H2.cells (i := 0) rfl, ?_⟩
  refine (own_Cutter_ct (qr_below hQ H2.below) hm).mono ?_
  rintro _ w3 ⟨ua, uc, L, hL, rfl, K⟩; have H3 := H2.callF K; clear H2 K
  have hLl : L.length = x.q.length := by rw [← hL, List.length_map]
  refine ⟨_, _, _, _, _, _, rfl, ?_⟩
  refine H3.alloc ?_; clear H3; intro b2 w4 H4
  simp only [List.cons_append, List.nil_append] at H4
  refine H4.store (i := 3) rfl (by rfl) (by rfl) ?_; clear H4; intro w5 H5
  replace H5 : St (fun _ => False) [] w w5 [.blk b Ty_api_Cutter (encCu x a c), .blk b1 Ty_api_Cutter [.int .i64 0, .int .i64 0, .slice none 0 0, .int .i64 0], .els encBL Ty_S_uint8 1 ua uc L, .blk b2 Ty_api_Cutter (encCu x ua uc)] (DaB L) := H5.imp fun _ h => h.1
  refine ⟨_, _, _, _, _, _, H5.cells (i := 0) rfl, ?_⟩
  refine (unack_Valid_ct (qr_below hQ H5.below) hm).mono ?_
  rintro _ w6 ⟨rfl, hb6⟩; have H6 := H5.pass hb6; clear H5
  refine ⟨_, rfl, ?_⟩
  have fin : ∀ {w' : World} {T : List Res} {E : Int}, (subC x d) = (x, E) → St (fun _ => False) [] w w' (.blk b Ty_api_Cutter (encCu x a c) :: .blk b1 Ty_api_Cutter [.int .i64 0, .int .i64 0, .slice none 0 0, .int .i64 0] :: .els encBL Ty_S_uint8 1 ua uc L :: .blk b2 Ty_api_Cutter (encCu x ua uc) :: T) (DaB L) →
      sxStore w' ⟨b1, 0, none⟩ 0 (encCu x ua uc) fun w7 => ∃ x_0 x_1 x_a x_l x_c x_3, cellsAt w7 ⟨b1, 0, none⟩ 0 [.int .i64 x_0, .int .i64 x_1, .slice x_a x_l x_c, .int .i64 x_3] ∧
        RetCF w (subC x d).1 (fun v => .tuple #[v, .int .i64 (subC x d).2]) (.returned (.tuple #[.agg #[.int .i64 x_0, .int .i64 x_1, .slice x_a x_l x_c, .int .i64 x_3], .int .i64 E])) w7 := fun {w' T E} hE H => by
    refine H.store (i := 1) rfl (by rfl) (by rfl) ?_; intro w7 H7
    refine ⟨_, _, _, _, _, _, H7.cells (i := 1) rfl, ?_⟩
    rw [hE]
    refine ⟨ua, uc, rfl, ?_⟩
    have K := (H7.shareE encBL_ok (i := 2) rfl).fin
    exact K.imp fun _ h => by rw [← hL]; exact up_qr h.1 h.2
  refine bsplit_nd (fun c2 => ?_) (fun c2 => ?_)
  · refine ⟨_, _, _, _, _, _, H6.cells (i := 3) rfl, ?_⟩
    exact fin (by unfold subC; rw [if_pos c2]) H6
  · refine unack_sized_ct.mono ?_
    rintro _ w8 ⟨rfl, hb8⟩; have H8 := H6.pass hb8; clear H6
    refine ⟨_, rfl, ?_⟩
    refine bsplit_nd (fun c1 => ?_) (fun c1 => ?_)
    · refine ⟨_, _, _, _, _, _, H8.cells (i := 3) rfl, ?_⟩
      exact fin (by unfold subC; rw [if_neg (fun h => h c2), if_pos c1]) H8
    · refine H8.ldS (i := 0) rfl rfl ?_
      refine kLet_in ?_
      refine bsplit_dec (fun c0 => ?_) (fun c0 => ?_)
      · refine ⟨_, _, _, _, _, _, H8.cells (i := 3) rfl, ?_⟩
        exact fin (by unfold subC; rw [if_neg (fun h => h c2), if_neg (fun h => h c1), if_pos (by omega)]) H8
      · have hE : subC x d = ({ x with q := x.q ++ [d] }, 0) := by unfold subC; rw [if_neg (fun h => h c2), if_neg (fun h => h c1), if_neg (by omega)]
        have hq256 := c2.2.2.1
        refine H8.drew ?_; clear H8; intro w11 H11
        refine ⟨fun z => z = b2, ?_⟩
        refine ⟨rfl, ?_⟩
        refine H11.ldS (i := 3) rfl rfl ?_
        refine (clone_bytes (hd.below H11.below) hdl).mono ?_
        rintro _ w12 ⟨ra, rc, rfl, K⟩
        have H12 := H11.callR K
        have hcap := H12.capI (i := 4) rfl
        replace H12 := St.shareLast (R := [_, _, _, _]) H12
        refine ⟨_, _, _, rfl, ?_⟩
        refine ⟨keepB1 (H11.ok 3 _ rfl) (H12.ok 3 _ rfl), ?_⟩
        refine H12.allocB ?_; intro b3 w13 hb13 H13
        simp only [List.cons_append, List.nil_append] at H13
        refine ⟨keepB1 (H11.ok 3 _ rfl) (H13.ok 3 _ rfl), ?_⟩
        rw [← hLl]
        refine H13.appEB encBL_ok (i := 2) (j := 4) rfl [⟨d, ra, rc⟩] rfl sl_Ty_S_S_uint8 rfl (by simp; omega) (by simp; omega) ?_; intro x_a2 x_c2 w14 H14
        simp only [List.set_cons_succ, List.set_cons_zero] at H14
        refine H14.set (i := 3) rfl (by show 2 < 4; decide) ?_; intro w15 H15
        simp only [List.set_cons_succ, List.set_cons_zero] at H15
        refine ⟨_, _, _, _, _, _, H15.cells (i := 3) rfl, ?_⟩
        refine H15.store (i := 1) rfl (by rfl) (by rfl) ?_; clear H15; intro w16 H16
        refine ⟨_, _, _, _, _, _, H16.cells (i := 1) rfl, ?_⟩
        rw [hE]
        have eq : (L ++ [(⟨d, ra, rc⟩ : BL)]).map (·.d) = x.q ++ [d] := by rw [List.map_append, hL]; rfl
        have el : (L ++ [(⟨d, ra, rc⟩ : BL)]).length = (x.q ++ [d]).length := by rw [← eq, List.length_map]
        refine ⟨x_a2, x_c2, ?_, ?_⟩
        · rw [el]
        · have K := (H16.shareE encBL_ok (i := 2) rfl).fin
          refine K.imp fun w h => ?_
          show QR w x_a2 (x.q ++ [d])
          rw [← eq]
          refine up_qr h.1 fun y hy => ?_
          rcases List.mem_append.1 hy with hy | hy
          · exact h.2.2 y hy
          · obtain rfl : y = ⟨d, ra, rc⟩ := by simpa using hy
            exact ⟨(ints_ok h.2.1).sl, hcap⟩
theorem ref23_Submit_ct {A : Nat → Prop} {L : List BL} (hL : L.map (·.d) = x.q) (hQ : Held A w (QL L a)) (hm : SmQ x.q) (hxc : x.q.length ≤ c) (hd : SlR (IntC .u8) 1 w da d) (hdl : d.length ≤ 140737488355328) :
    Calls Try.prog N_ref23_Submit #[aggCu x a c, .slice da d.length dc] w (RetCA A w (subC x d).1 fun v => .tuple #[v, .int .i64 (subC x d).2]) := by
  apply F_ref23_Submit_ok
  unfold F_ref23_Submit
  have H := St.start hQ
  have hq : ∀ {w}, QL L a w → QR w a x.q := fun h => by rw [← hL]; exact h.qr
  have hLl : L.length = x.q.length := by rw [← hL, List.length_map]
  refine H.alloc ?_; clear H; intro b w1 H1
  refine H1.alloc ?_; clear H1; intro b1 w2 H2
  refine ⟨_, _, _, _, _, _, H2.cells (i := 0) rfl, ?_⟩
  refine (ref23_Valid_ct (hq H2.get) hm).mono ?_
  rintro _ w3 ⟨rfl, hb3⟩; have H3 := H2.pass hb3; clear H2
  refine ⟨_, rfl, ?_⟩
  replace H3 : St A [] w w3 [.blk b Ty_api_Cutter (encCu x a c), .blk b1 Ty_api_Cutter [.int .i64 0, .int .i64 0, .slice none 0 0, .int .i64 0]] (QL L a) := H3
  have fin : ∀ {w' : World} {T : List Res} {E : Int}, (subC x d) = (x, E) → St A [] w w' (.blk b Ty_api_Cutter (encCu x a c) :: .blk b1 Ty_api_Cutter [.int .i64 0, .int .i64 0, .slice none 0 0, .int .i64 0] :: T) (QL L a) →
      sxStore w' ⟨b1, 0, none⟩ 0 (encCu x a c) fun w7 => ∃ x_0 x_1 x_a x_l x_c x_3, cellsAt w7 ⟨b1, 0, none⟩ 0 [.int .i64 x_0, .int .i64 x_1, .slice x_a x_l x_c, .int .i64 x_3] ∧
        RetCA A w (subC x d).1 (fun v => .tuple #[v, .int .i64 (subC x d).2]) (.returned (.tuple #[.agg #[.int .i64 x_0, .int .i64 x_1, .slice x_a x_l x_c, .int .i64 x_3], .int .i64 E])) w7 := fun {w' T E} hE H => by
    refine H.store (i := 1) rfl (by rfl) (by rfl) ?_; intro w7 H7
    refine ⟨_, _, _, _, _, _, H7.cells (i := 1) rfl, ?_⟩
    rw [hE]
    exact ⟨a, c, L, hL, rfl, hxc, H7.fin⟩
  refine bsplit_nd (fun c3 => ?_) (fun c3 => ?_)
  · refine ⟨_, _, _, _, _, _, H3.cells (i := 0) rfl, ?_⟩
    exact fin (by unfold subC; rw [if_pos c3]) H3
  · refine ⟨fun x1 w5 => (x1 = true ↔ ¬ sizedB d) ∧ SlR (IntC .u8) 1 w5 da d ∧ St A [] w w5 [.blk b Ty_api_Cutter (encCu x a c), .blk b1 Ty_api_Cutter [.int .i64 0, .int .i64 0, .slice none 0 0, .int .i64 0]] (QL L a), ?_, ?_⟩
    · rintro _ x1 w5 ⟨hj, hd5, H5⟩
      refine bsplit_intro (fun c2 => ?_) (fun c2 => ?_)
      · refine ⟨_, _, _, _, _, _, H5.cells (i := 0) rfl, ?_⟩
        exact fin (by unfold subC; rw [if_neg (fun h => h c3), if_pos (hj.1 c2)]) H5
      · have c1 : sizedB d := by
          by_cases h : sizedB d
          · exact h
          · rw [hj.2 h] at c2; cases c2
        refine H5.ldS (i := 0) rfl rfl ?_
        refine kLet_in ?_
        refine bsplit_dec (fun c0 => ?_) (fun c0 => ?_)
        · refine ⟨_, _, _, _, _, _, H5.cells (i := 0) rfl, ?_⟩
          exact fin (by unfold subC; rw [if_neg (fun h => h c3), if_neg (fun h => h c1), if_pos (by omega)]) H5
        · have hE : subC x d = ({ x with q := x.q ++ [d] }, 0) := by unfold subC; rw [if_neg (fun h => h c3), if_neg (fun h => h c1), if_neg (by omega)]
          have hq256 := c3.2.2.1
          refine H5.alloc ?_; clear H5; intro b2 w8 H8
          simp only [List.cons_append, List.nil_append] at H8
          have H8 := H8.litE encBL_ok (i := 2) [] rfl (by decide)
          simp only [List.set_cons_succ, List.set_cons_zero] at H8
          refine H8.ldS (i := 0) rfl rfl ?_
          rw [← hLl]
          refine H8.appE encBL_ok (i := 2) rfl sl_Ty_S_S_uint8 H8.get.1 (by simp; omega) (by simp; omega) ?_
          intro x_a2 x_c2 w9 H9
          simp only [List.set_cons_succ, List.set_cons_zero, List.nil_append] at H9
          refine H9.alloc ?_; clear H9; intro b3 w10 H10
          simp only [List.cons_append, List.nil_append] at H10
          have H10 := H10.litI (i := 3) (k := .u8) [] rfl (by decide)
          simp only [List.set_cons_succ, List.set_cons_zero] at H10
          refine H10.appI (i := 3) rfl sl_Ty_S_uint8 (hd.below H10.below) (by simp; omega) (by simp; omega) ?_
          intro x_a3 x_c3 w11 H11
          simp only [List.set_cons_succ, List.set_cons_zero, List.nil_append] at H11
          have hcap := H11.capI (i := 3) rfl
          replace H11 := St.shareLast (R := [_, _, _]) H11
          refine H11.alloc ?_; clear H11; intro b4 w12 H12
          simp only [List.cons_append, List.nil_append] at H12
          refine H12.appEB encBL_ok (i := 2) (j := 3) rfl [⟨d, x_a3, x_c3⟩] rfl sl_Ty_S_S_uint8 rfl (by simp; omega) (by simp; omega) ?_
          intro x_a4 x_c4 w13 H13
          simp only [List.set_cons_succ, List.set_cons_zero] at H13
          refine H13.set (i := 0) rfl (by show 2 < 4; decide) ?_; intro w14 H14
          simp only [List.set_cons_succ, List.set_cons_zero] at H14
          refine ⟨_, _, _, _, _, _, H14.cells (i := 0) rfl, ?_⟩
          refine H14.store (i := 1) rfl (by rfl) (by rfl) ?_; clear H14; intro w16 H16
          refine ⟨_, _, _, _, _, _, H16.cells (i := 1) rfl, ?_⟩
          rw [hE]
          have eq : (L ++ [(⟨d, x_a3, x_c3⟩ : BL)]).map (·.d) = x.q ++ [d] := by rw [List.map_append, hL]; rfl
          have el : (L ++ [(⟨d, x_a3, x_c3⟩ : BL)]).length = (x.q ++ [d]).length := by rw [← eq, List.length_map]
          refine ⟨x_a4, x_c4, _, eq, ?_, ?_, ?_⟩
          · rw [el]
          · have := H16.capE (i := 2) rfl
            show (x.q ++ [d]).length ≤ _
            rw [← el]; exact this
          · have K := (H16.shareE encBL_ok (i := 2) rfl).fin
            refine K.imp fun w h => ?_
            refine ⟨h.1, fun y hy => ?_⟩
            rcases List.mem_append.1 hy with hy | hy
            · exact h.2.2.2 y hy
            · obtain rfl : y = ⟨d, x_a3, x_c3⟩ := by simpa using hy
              exact ⟨(ints_ok h.2.1).sl, hcap⟩
    · refine bsplit_dec (fun c => ?_) (fun c => ?_)
      · exact ⟨⟨fun _ h => by have := h.1; omega, fun _ => rfl⟩, hd.below H3.below, H3⟩
      · refine kLet_in ?_
        exact ⟨by rw [decide_eq_true_iff]; exact ⟨fun h hh => by have := hh.2; omega, fun h => by
          by_cases h' : (d.length : Int) > 2054
          · exact h'
          · exact absurd ⟨by omega, by omega⟩ h⟩, hd.below H3.below, H3⟩
end
end Go.Proofs.Ytlgolgpellbnbaa
/- CHAPTER 23: New, Receive, the rest of a unit. -/
namespace Go.Sx
def Cu.zero : Cu := ⟨0, 0, [], 0⟩
def newU (n wait : Int) : Cu × Rc × Int :=
  if lkOk ⟨n, 1, 1, wait, 0, 1⟩ then (⟨n, 0, [], 0⟩, ⟨⟨n, 1, 1, wait, 0, 1⟩, 0, 0, 0, -1, 0, 0, false, []⟩, 0) else (.zero, .zero, 3)
def plainR (s : Rc) : Rc := { s with due := false, upto := s.first }
end Go.Sx
namespace Go.Proofs.Ytlgolgpellbnbaa
open Go.Sx Go.RowKit
set_option maxRecDepth 100000
def RetU (w : World) (x : Cu × Rc × Int) (e : Ending) (w' : World) : Prop := e = .returned (.tuple #[aggCu x.1 none 0, aggRc x.2.1 none 0, .int .i64 x.2.2]) ∧ Below w.heap.size w w'
section
variable {n wait : Int} {w : World}
theorem unack_New_ct : Calls Try.prog N_unack_New #[.int .i64 n, .int .i64 wait] w (RetU w (newU n wait)) := by
  apply F_unack_New_ok
  unfold F_unack_New
  have H := St.nil w
  refine H.alloc ?_; clear H; intro b w1 H1
  refine H1.alloc ?_; clear H1; intro b1 w2 H2
  have hlk : lkOk ⟨n, 1, 1, wait, 0, 1⟩ ↔ bitsOk n ∧ 1 ≤ wait ∧ wait ≤ 1000 :=
    ⟨fun h => ⟨h.1, h.2.2.2.1⟩, fun h => ⟨h.1, ⟨by dsimp only; omega, by dsimp only; omega⟩, ⟨by dsimp only; omega, by dsimp only; omega⟩, h.2, ⟨by dsimp only; omega, by dsimp only; omega⟩, ⟨by dsimp only; omega, by dsimp only; omega⟩⟩⟩
  refine ⟨fun x w4 => (x = true ↔ ¬ lkOk ⟨n, 1, 1, wait, 0, 1⟩) ∧ FreshR w w4 [.blk b Ty_api_Cutter (encCu .zero none 0), .blk b1 Ty_api_Receiver (encRc .zero none 0)], ?_, ?_⟩
  · rintro _ x w4 ⟨hj, H4⟩
    refine bsplit_intro (fun c3 => ?_) (fun c3 => ?_)
    · refine H4.store (i := 0) rfl (by rfl) (by rfl) ?_; clear H4; intro w5 H5
      refine H5.store (i := 1) rfl (by rfl) (by rfl) ?_; clear H5; intro w6 H6
      refine ⟨_, _, _, _, _, _, H6.cells (i := 0) rfl, ?_⟩
      refine ⟨_, _, _, _, _, _, _, _, _, _, _, _, _, _, _, _, H6.cells (i := 1) rfl, ?_⟩
      have e : newU n wait = (.zero, .zero, 3) := by unfold newU; rw [if_neg (hj.1 c3)]
      rw [e]
      exact ⟨rfl, H6.below⟩
    · have hl : lkOk ⟨n, 1, 1, wait, 0, 1⟩ := by
        by_cases h : lkOk ⟨n, 1, 1, wait, 0, 1⟩
        · exact h
        · rw [hj.2 h] at c3; cases c3
      have C := receiver_New_ct (l := ⟨n, 1, 1, wait, 0, 1⟩) (w := w4)
      have e1 : newRc ⟨n, 1, 1, wait, 0, 1⟩ = (⟨⟨n, 1, 1, wait, 0, 1⟩, 0, 0, 0, -1, 0, 0, false, []⟩, 0) := by unfold newRc; rw [if_pos hl]
      rw [e1] at C
      refine C.mono ?_; clear C
      rintro _ w7 ⟨rfl, _, hb7⟩; have H7 := H4.pass hb7; clear H4
      refine ⟨_, _, _, _, _, _, _, _, _, _, _, _, _, _, _, _, _, rfl, ?_⟩
      refine H7.alloc ?_; clear H7; intro b2 w8 H8
      simp only [List.cons_append, List.nil_append] at H8
      refine H8.store (i := 2) rfl (by rfl) (by rfl) ?_; clear H8; intro w9 H9
      refine bsplit_nd (fun c2 => absurd rfl c2) (fun c2 => ?_)
      refine H9.drew ?_; clear H9; intro w12 H12
      refine ⟨fun z => z = b2, ?_⟩
      refine ⟨rfl, ?_⟩
      refine ⟨_, _, _, _, _, _, _, _, _, _, _, _, _, _, _, _, H12.cells (i := 2) rfl, ?_⟩
      refine ⟨keepB1 (H12.ok 2 _ rfl) (H12.ok 2 _ rfl), ?_⟩
      refine H12.store (i := 0) rfl (by rfl) (by rfl) ?_; intro w13 H13
      refine ⟨keepB1 (H12.ok 2 _ rfl) (H13.ok 2 _ rfl), ?_⟩
      refine H13.store (i := 1) rfl (by rfl) (by rfl) ?_; intro w14 H14
      refine ⟨_, _, _, _, _, _, H14.cells (i := 0) rfl, ?_⟩
      refine ⟨_, _, _, _, _, _, _, _, _, _, _, _, _, _, _, _, H14.cells (i := 1) rfl, ?_⟩
      have e : newU n wait = (⟨n, 0, [], 0⟩, ⟨⟨n, 1, 1, wait, 0, 1⟩, 0, 0, 0, -1, 0, 0, false, []⟩, 0) := by unfold newU; rw [if_pos hl]
      rw [e]
      exact ⟨rfl, H14.below⟩
  · refine unack_bitsValid_ct.mono ?_
    rintro _ w3 ⟨rfl, hb3⟩; have H3 := H2.pass hb3; clear H2
    refine ⟨_, rfl, ?_⟩
    refine bsplit_nd (fun c1 => ?_) (fun c1 => ?_)
    · exact ⟨⟨fun _ h => c1 (hlk.1 h).1, fun _ => rfl⟩, H3⟩
    · refine bsplit_dec (fun c => ?_) (fun c => ?_)
      · exact ⟨⟨fun _ h => by have := (hlk.1 h).2.1; omega, fun _ => rfl⟩, H3⟩
      · refine ⟨?_, H3⟩
        rw [decide_eq_true_iff, hlk]
        exact ⟨fun h hh => by have := hh.2.2; omega, fun h => by
          by_cases h' : wait > 1000
          · exact h'
          · exact absurd ⟨c1, by omega, by omega⟩ h⟩
theorem ref23_Link_ct : Calls Try.prog N_ref23_Link #[.int .i64 n, .int .i64 wait] w fun e w' => e = .returned (.agg #[.int .i64 n, .int .i64 1, .int .i64 1, .int .i64 wait, .int .i64 0, .int .i64 1]) ∧ Below w.heap.size w w' := by
  apply F_ref23_Link_ok
  unfold F_ref23_Link
  have H := St.nil w
  refine H.alloc ?_; clear H; intro b w1 H1
  refine H1.store (i := 0) rfl (by rfl) (by rfl) ?_; clear H1; intro w2 H2
  refine ⟨_, _, _, _, _, _, H2.cells (i := 0) rfl, ?_⟩
  exact ⟨rfl, H2.below⟩
theorem ref23_New_ct : Calls Try.prog N_ref23_New #[.int .i64 n, .int .i64 wait] w (RetU w (newU n wait)) := by
  apply F_ref23_New_ok
  unfold F_ref23_New
  have H := St.nil w
  refine H.alloc ?_; clear H; intro b w1 H1
  refine H1.alloc ?_; clear H1; intro b1 w2 H2
  refine ref23_Link_ct.mono ?_
  rintro _ w3 ⟨rfl, hb3⟩; have H3 := H2.pass hb3; clear H2
  refine ⟨_, _, _, _, _, _, rfl, ?_⟩
  have C := ref21_New_ct (l := ⟨n, 1, 1, wait, 0, 1⟩) (w := w3)
  by_cases hl : lkOk ⟨n, 1, 1, wait, 0, 1⟩
  · have e1 : newRc ⟨n, 1, 1, wait, 0, 1⟩ = (⟨⟨n, 1, 1, wait, 0, 1⟩, 0, 0, 0, -1, 0, 0, false, []⟩, 0) := by unfold newRc; rw [if_pos hl]
    rw [e1] at C
    refine C.mono ?_; clear C
    rintro _ w7 ⟨rfl, _, hb7⟩; have H7 := H3.pass hb7; clear H3
    refine ⟨_, _, _, _, _, _, _, _, _, _, _, _, _, _, _, _, _, rfl, ?_⟩
    refine H7.alloc ?_; clear H7; intro b2 w8 H8
    simp only [List.cons_append, List.nil_append] at H8
    refine H8.store (i := 2) rfl (by rfl) (by rfl) ?_; clear H8; intro w9 H9
    refine bsplit_nd (fun c2 => absurd rfl c2) (fun c2 => ?_)
    refine H9.drew ?_; clear H9; intro w12 H12
    refine ⟨fun z => z = b2, ?_⟩
    refine ⟨rfl, ?_⟩
    refine ⟨_, _, _, _, _, _, _, _, _, _, _, _, _, _, _, _, H12.cells (i := 2) rfl, ?_⟩
    refine ⟨keepB1 (H12.ok 2 _ rfl) (H12.ok 2 _ rfl), ?_⟩
    refine H12.store (i := 0) rfl (by rfl) (by rfl) ?_; intro w13 H13
    refine ⟨keepB1 (H12.ok 2 _ rfl) (H13.ok 2 _ rfl), ?_⟩
    refine H13.store (i := 1) rfl (by rfl) (by rfl) ?_; intro w14 H14
    refine ⟨keepB1 (H12.ok 2 _ rfl) (H14.ok 2 _ rfl), ?_⟩
    refine ⟨_, _, _, _, _, _, H14.cells (i := 0) rfl, ?_⟩
    refine ⟨_, _, _, _, _, _, _, _, _, _, _, _, _, _, _, _, H14.cells (i := 1) rfl, ?_⟩
    have e : newU n wait = (⟨n, 0, [], 0⟩, ⟨⟨n, 1, 1, wait, 0, 1⟩, 0, 0, 0, -1, 0, 0, false, []⟩, 0) := by unfold newU; rw [if_pos hl]
    rw [e]
    exact ⟨rfl, H14.below⟩
  · have e1 : newRc ⟨n, 1, 1, wait, 0, 1⟩ = (.zero, 3) := by unfold newRc; rw [if_neg hl]
    rw [e1] at C
    refine C.mono ?_; clear C
    rintro _ w7 ⟨rfl, _, hb7⟩; have H7 := H3.pass hb7; clear H3
    refine ⟨_, _, _, _, _, _, _, _, _, _, _, _, _, _, _, _, _, rfl, ?_⟩
    refine H7.alloc ?_; clear H7; intro b2 w8 H8
    simp only [List.cons_append, List.nil_append] at H8
    refine H8.store (i := 2) rfl (by rfl) (by rfl) ?_; clear H8; intro w9 H9
    refine bsplit_nd (fun c2 => ?_) (fun c2 => by cases c2)
    refine H9.store (i := 0) rfl (by rfl) (by rfl) ?_; clear H9; intro w10 H10
    refine H10.store (i := 1) rfl (by rfl) (by rfl) ?_; clear H10; intro w11 H11
    refine ⟨_, _, _, _, _, _, H11.cells (i := 0) rfl, ?_⟩
    refine ⟨_, _, _, _, _, _, _, _, _, _, _, _, _, _, _, _, H11.cells (i := 1) rfl, ?_⟩
    have e : newU n wait = (.zero, .zero, 3) := by unfold newU; rw [if_neg hl]
    rw [e]
    exact ⟨rfl, H11.below⟩
end
section
variable {s : Rc} {a : Option Addr} {c : Nat} {w : World}
theorem unack_plain_ct : Calls Try.prog N_unack_plain #[aggRc s a c] w fun e w' => e = .returned (aggRc (plainR s) a c) ∧ Below w.heap.size w w' := by
  apply F_unack_plain_ok
  unfold F_unack_plain
  have H := St.nil w
  refine H.alloc ?_; clear H; intro b w1 H1
  refine H1.alloc ?_; clear H1; intro b1 w2 H2
  simp only [List.cons_append, List.nil_append] at H2
  refine H2.ld (i := 0) rfl rfl ?_
  refine H2.set (i := 0) rfl (by show 12 < 14; decide) ?_; clear H2; intro w3 H3
  refine H3.set (i := 0) rfl (by show 8 < 14; decide) ?_; clear H3; intro w4 H4
  refine ⟨_, _, _, _, _, _, _, _, _, _, _, _, _, _, _, _, H4.cells (i := 0) rfl, ?_⟩
  refine H4.store (i := 1) rfl (by rfl) (by rfl) ?_; clear H4; intro w5 H5
  refine ⟨_, _, _, _, _, _, _, _, _, _, _, _, _, _, _, _, H5.cells (i := 1) rfl, ?_⟩
  exact ⟨rfl, H5.below⟩
theorem unack_Receive_ct {bs : List Int} {b_a : Option Addr} {b_c : Nat} (hu : PaR w a s.parts) (hl : SmP s.parts) (hs : SlR (IntC .u8) 1 w b_a bs) (hB : Bytes bs) (hlb : bs.length ≤ 140737488355328) (hcap : bs.length ≤ b_c) :
    Calls Try.prog N_unack_Receive #[aggRc s a c, .slice b_a bs.length b_c] w (RetRU w (plainR (recS s bs).1) (recS s bs).2.1 (recS s bs).2.2) := by
  apply F_unack_Receive_ok
  unfold F_unack_Receive
  have H := St.nil w
  refine H.alloc ?_; clear H; intro b w1 H1
  refine H1.alloc ?_; clear H1; intro b1 w2 H2
  refine ⟨_, _, _, _, _, _, _, _, _, _, _, _, _, _, _, _, H2.cells (i := 0) rfl, ?_⟩
  refine (receiver_Receive_ct (paR_below hu H2.below) hl (hs.below H2.below) hB hlb hcap).mono ?_
  obtain ⟨rr, hrr⟩ : ∃ rr, rr = recS s bs := ⟨_, rfl⟩
  rw [← hrr]
  rintro _ w3 ⟨ua, uc, ba, bc, rfl, hbc, K⟩; have H3 := H2.callF K; clear H2 K
  rw [List.append_nil] at H3
  refine ⟨_, _, _, _, _, _, _, _, _, _, _, _, _, _, _, _, _, _, _, _, rfl, ?_⟩
  refine H3.alloc ?_; clear H3; intro b2 w4 H4
  simp only [List.cons_append, List.nil_append] at H4
  refine H4.store (i := 2) rfl (by rfl) (by rfl) ?_; clear H4; intro w5 H5
  refine ⟨_, _, _, _, _, _, _, _, _, _, _, _, _, _, _, _, H5.cells (i := 2) rfl, ?_⟩
  refine (unack_plain_ct (s := rr.1)).mono ?_
  rintro _ w6 ⟨rfl, hb6⟩; have H6 := H5.pass hb6; clear H5
  refine ⟨_, _, _, _, _, _, _, _, _, _, _, _, _, _, _, _, rfl, ?_⟩
  refine H6.store (i := 1) rfl (by rfl) (by rfl) ?_; clear H6; intro w7 H7
  refine ⟨_, _, _, _, _, _, _, _, _, _, _, _, _, _, _, _, H7.cells (i := 1) rfl, ?_⟩
  exact ⟨ua, uc, ba, bc, rfl, hbc, H7.fin.imp fun _ h => h.1⟩
end
theorem unack_piece_ct {sn off : Int} {a : Option Addr} {l c : Nat} {w : World} :
    Calls Try.prog N_unack_piece #[.int .i64 sn, .int .i64 off, .slice a l c] w fun e w' => e = .returned (.agg #[.int .i64 sn, .int .i64 (if off = 0 then 0 else 2), .int .i64 0, .int .i64 off, .slice a l c]) ∧ Below w.heap.size w w' := by
  apply F_unack_piece_ok
  unfold F_unack_piece
  have H := St.nil w
  refine H.alloc ?_; clear H; intro b w1 H1
  refine bsplit_dec (fun h => ?_) (fun h => ?_)
  · refine H1.store (i := 0) rfl (by rfl) (by rfl) ?_; clear H1; intro w2 H2
    refine ⟨_, _, _, _, _, _, _, H2.cells (i := 0) rfl, ?_⟩
    exact ⟨by rw [if_pos h, h], H2.below⟩
  · refine H1.store (i := 0) rfl (by rfl) (by rfl) ?_; clear H1; intro w3 H3
    refine ⟨_, _, _, _, _, _, _, H3.cells (i := 0) rfl, ?_⟩
    exact ⟨by rw [if_neg h], H3.below⟩
end Go.Proofs.Ytlgolgpellbnbaa
/- CHAPTER 23: Build. -/
namespace Go.Sx
def encPc (p : Pc) (a : Option Addr) (c : Nat) : List Value := [.int .i64 p.sn, .int .i64 p.part, .int .i64 p.poll, .int .i64 p.off, .slice a p.data.length c]
theorem enc_ok {b : Int} {p : Pc} (h : p.ok b) : encP b p = (p.bytes, 0) := by unfold encP; rw [if_pos h]
end Go.Sx
namespace Go.Proofs.Ytlgolgpellbnbaa
open Go.Sx Go.RowKit
set_option maxRecDepth 100000
def RetCB (w : World) (x : Cu × List Int × Int) (e : Ending) (w' : World) : Prop :=
  ∃ a c ba bc, e = .returned (.tuple #[aggCu x.1 a c, .slice ba x.2.1.length bc, .int .i64 x.2.2]) ∧ x.2.1.length ≤ bc ∧ Fresh w w' fun w => QR w a x.1.q ∧ SlR (IntC .u8) 1 w ba x.2.1
section
variable {x : Cu} {a : Option Addr} {c : Nat} {w : World} {size : Int}
theorem unack_Build_ct (hQ : QR w a x.q) (hm : SmQ x.q) (hsz : -9223372036854775808 ≤ size ∧ size ≤ 9223372036854775807) :
    Calls Try.prog N_unack_Build #[aggCu x a c, .int .i64 size] w (RetCB w (buildC x size)) := by
  apply F_unack_Build_ok
  unfold F_unack_Build
  have H := St.nil w
  refine H.alloc ?_; clear H; intro b w1 H1
  refine H1.alloc ?_; clear H1; intro b1 w2 H2
  refine ⟨_, _, _, _, _, _, H2.cells (i := 0) rfl, ?_⟩
  refine (own_Cutter_ct (qr_below hQ H2.below) hm).mono ?_
  rintro _ w3 ⟨ua, uc, L, hL, rfl, K⟩; have H3 := H2.callF K; clear H2 K
  have hLl : L.length = x.q.length := by rw [← hL, List.length_map]
  refine ⟨_, _, _, _, _, _, rfl, ?_⟩
  refine H3.alloc ?_; clear H3; intro b2 w4 H4
  simp only [List.cons_append, List.nil_append] at H4
  refine H4.store (i := 3) rfl (by rfl) (by rfl) ?_; clear H4; intro w5 H5
  replace H5 : St (fun _ => False) [] w w5 [.blk b Ty_api_Cutter (encCu x a c), .blk b1 Ty_api_Cutter [.int .i64 0, .int .i64 0, .slice none 0 0, .int .i64 0], .els encBL Ty_S_uint8 1 ua uc L, .blk b2 Ty_api_Cutter (encCu x ua uc)] (DaB L) := H5.imp fun _ h => h.1
  refine ⟨_, _, _, _, _, _, H5.cells (i := 0) rfl, ?_⟩
  refine (unack_Valid_ct (qr_below hQ H5.below) hm).mono ?_
  rintro _ w6 ⟨rfl, hb6⟩; have H6 := H5.pass hb6; clear H5
  refine ⟨_, rfl, ?_⟩
  have fin : ∀ {w' : World} {T : List Res} {E : Int} {P : World → Prop}, buildC x size = (x, [], E) → (∀ w, P w → DaB L w) → St (fun _ => False) [] w w' (.blk b Ty_api_Cutter (encCu x a c) :: .blk b1 Ty_api_Cutter [.int .i64 0, .int .i64 0, .slice none 0 0, .int .i64 0] :: .els encBL Ty_S_uint8 1 ua uc L :: .blk b2 Ty_api_Cutter (encCu x ua uc) :: T) P →
      sxStore w' ⟨b1, 0, none⟩ 0 (encCu x ua uc) fun w7 => ∃ x_0 x_1 x_a x_l x_c x_3, cellsAt w7 ⟨b1, 0, none⟩ 0 [.int .i64 x_0, .int .i64 x_1, .slice x_a x_l x_c, .int .i64 x_3] ∧
        RetCB w (buildC x size) (.returned (.tuple #[.agg #[.int .i64 x_0, .int .i64 x_1, .slice x_a x_l x_c, .int .i64 x_3], .slice none 0 0, .int .i64 E])) w7 := fun {w' T E P} hE hP H => by
    refine H.store (i := 1) rfl (by rfl) (by rfl) ?_; intro w7 H7
    refine ⟨_, _, _, _, _, _, H7.cells (i := 1) rfl, ?_⟩
    rw [hE]
    refine ⟨ua, uc, none, 0, rfl, Nat.le_refl _, ?_⟩
    have K := (H7.shareE encBL_ok (i := 2) rfl).fin
    exact K.imp fun w h => ⟨by show QR w ua x.q; rw [← hL]; exact up_qr h.1 (hP _ h.2), .nil⟩
  refine bsplit_nd (fun c6 => ?_) (fun c6 => ?_)
  · refine ⟨_, _, _, _, _, _, H6.cells (i := 3) rfl, ?_⟩
    exact fin (by unfold buildC; rw [if_pos c6]) (fun _ h => h) H6
  · refine ⟨fun x1 w8 => (x1 = true ↔ size < 0 ∨ size > 4096) ∧ St (fun _ => False) [] w w8 [.blk b Ty_api_Cutter (encCu x a c), .blk b1 Ty_api_Cutter [.int .i64 0, .int .i64 0, .slice none 0 0, .int .i64 0], .els encBL Ty_S_uint8 1 ua uc L, .blk b2 Ty_api_Cutter (encCu x ua uc)] (DaB L), ?_, ?_⟩
    · rintro _ x1 w8 ⟨hj, H8⟩
      refine bsplit_intro (fun c5 => ?_) (fun c5 => ?_)
      · refine ⟨_, _, _, _, _, _, H8.cells (i := 3) rfl, ?_⟩
        exact fin (by unfold buildC; rw [if_neg (fun h => h c6), if_pos (hj.1 c5)]) (fun _ h => h) H8
      · have hsz2 : ¬ (size < 0 ∨ size > 4096) := fun h => by rw [hj.2 h] at c5; cases c5
        refine H8.ldS (i := 0) rfl rfl ?_
        refine kLet_in ?_
        refine bsplit_dec (fun c4 => ?_) (fun c4 => ?_)
        · refine ⟨_, _, _, _, _, _, H8.cells (i := 3) rfl, ?_⟩
          have hq : x.q = [] := List.eq_nil_of_length_eq_zero (by omega)
          exact fin (by unfold buildC; rw [if_neg (fun h => h c6), if_neg hsz2, hq]) (fun _ h => h) H8
        · obtain ⟨d, l, hq⟩ : ∃ d l, x.q = d :: l := by
            cases hq : x.q with
            | nil => rw [hq] at c4; simp at c4
            | cons d l => exact ⟨d, l, rfl⟩
          obtain ⟨y, L', hLe⟩ : ∃ y L', L = y :: L' := by
            cases hLe : L with
            | nil => rw [hLe, hq] at hLl; simp at hLl
            | cons y L' => exact ⟨y, L', rfl⟩
          have hyd : y.d = d ∧ L'.map (·.d) = l := by
            rw [hLe, hq] at hL
            injection hL with h1 h2
            exact ⟨h1, h2⟩
          have hym : y ∈ L := by rw [hLe]; simp
          have hro := rest_ok c6 hq
          have hdo := c6.2.2.2.2.1 d (by rw [hq]; simp)
          obtain ⟨hd1, hd2⟩ := hdo
          have hs0 := c6.2.2.2.1
          have hs1 : x.sent < d.length := by have h := c6.2.2.2.2.2; unfold headOk at h; rw [hq] at h; exact h
          obtain ⟨cu, hcu⟩ : ∃ cu, cu = cutP x.bits (restP x d) size := ⟨_, rfl⟩
          have hB : buildC x size = if cu.2.2 ≠ 0 then (x, [], cu.2.2) else (afterC x d l cu.1.data.length, (encP x.bits cu.1).1, 0) := by
            unfold buildC; rw [if_neg (fun h => h c6), if_neg hsz2, hq, hcu]
          obtain ⟨g, rfl, hg1, hg2⟩ := H8.rowSome (i := 2) rfl (by omega)
          have hL0 : 0 < L.length := by omega
          have hy0 : L[0] = y := by simp [hLe]
          refine ⟨fun first e1 w70 => e1 = cu.2.2 ∧ ∃ (bp : Nat) (pa : Option Addr) (pc : Nat), first = (⟨bp, 0, none⟩ : Addr) ∧
            St (fun _ => False) [] w w70 [.blk b Ty_api_Cutter (encCu x a c), .blk b1 Ty_api_Cutter [.int .i64 0, .int .i64 0, .slice none 0 0, .int .i64 0], .els encBL Ty_S_uint8 1 (some ⟨g, 0, none⟩) uc L, .blk b2 Ty_api_Cutter (encCu x (some ⟨g, 0, none⟩) uc), .blk bp Ty_api_Piece (encPc cu.1 pa pc)] (fun w => SlR (IntC .u8) 1 w pa cu.1.data ∧ DaB L w), ?_, ?_⟩
          · rintro _ first e1 w70 ⟨rfl, bp, pa, pc, rfl, H70⟩
            clear H8
            refine bsplit_nd (fun c3 => ?_) (fun c3 => ?_)
            · refine ⟨_, _, _, _, _, _, H70.cells (i := 3) rfl, ?_⟩
              exact fin (by rw [hB, if_pos c3]) (fun _ h => h.2) H70
            · have hc0 : (cutP x.bits (restP x d) size).2.2 = 0 := by rw [← hcu]; simpa using c3
              obtain ⟨k1, k2, k3⟩ := cut_ok hro hc0
              rw [← hcu] at k1 k2 k3
              have k4 : cu.1.data.length ≤ d.length := by
                have := congrArg List.length k2
                rw [List.length_take] at this
                have h2 : (restP x d).data.length ≤ d.length := by show (d.drop _).length ≤ _; simp
                omega
              have hB2 : buildC x size = (afterC x d l cu.1.data.length, cu.1.bytes, 0) := by rw [hB, if_neg (fun h => h c3), enc_ok k1]
              refine H70.ld (i := 0) rfl rfl ?_
              refine ⟨_, _, _, _, _, _, _, H70.cells (i := 4) rfl, ?_⟩
              have C := segment_Encode_ct (bits := x.bits) (p_0 := cu.1.sn) (p_1 := cu.1.part) (p_2 := cu.1.poll) (p_3 := cu.1.off) (p_4_c := pc) H70.get.1 (by omega)
              have e1 : (⟨cu.1.sn, cu.1.part, cu.1.poll, cu.1.off, cu.1.data⟩ : Pc) = cu.1 := rfl
              rw [e1, enc_ok k1] at C
              refine C.mono ?_; clear C
              rintro _ w72 ⟨ra, rc, hrc, rfl, K⟩; have H72 := H70.callF K; clear K H70
              rw [List.append_nil] at H72
              refine ⟨_, _, _, _, rfl, ?_⟩
              refine bsplit_nd (fun c2 => absurd rfl c2) (fun c2 => ?_)
              refine H72.ld (i := 3) rfl rfl ?_
              refine ⟨_, _, _, H72.cell (i := 4) (o := 4) rfl rfl, ?_⟩
              refine kW_i64 (by omega) ?_
              refine H72.set (i := 3) rfl (by show 3 < 4; decide) ?_; clear H72; intro w74 H74
              refine H74.drew ?_; clear H74; intro w75 H75
              replace H75 : St (fun _ => False) [] w w75 [.blk b Ty_api_Cutter (encCu x a c), .blk b1 Ty_api_Cutter [.int .i64 0, .int .i64 0, .slice none 0 0, .int .i64 0], .els encBL Ty_S_uint8 1 (some ⟨g, 0, none⟩) uc L, .blk b2 Ty_api_Cutter [.int .i64 x.bits, .int .i64 x.next, .slice (some ⟨g, 0, none⟩) x.q.length uc, .int .i64 (x.sent + cu.1.data.length)], .blk bp Ty_api_Piece (encPc cu.1 pa pc)] (fun w => SlR (IntC .u8) 1 w ra cu.1.bytes ∧ SlR (IntC .u8) 1 w pa cu.1.data ∧ DaB L w) := H75
              refine H75.ld (i := 3) rfl rfl ?_
              refine H75.ldS (i := 3) rfl rfl ?_
              refine kIx_at ⟨by omega, by omega⟩ ?_
              refine ⟨_, _, _, H75.cellEl encBL_ok (i := 2) rfl hL0 (j := 0) (v := .slice y.a y.d.length y.c) (by decide) (by rw [hy0]; rfl), ?_⟩
              refine bsplit_dec (fun c1 => ?_) (fun c1 => ?_)
              · refine H75.drew ?_; clear H75; intro w76 H76
                refine ⟨fun z => z = b2, ?_⟩
                refine ⟨rfl, ?_⟩
                refine H76.ldS (i := 3) rfl rfl ?_
                refine ⟨⟨by omega, by omega⟩, ?_⟩
                refine H76.ld (i := 0) rfl rfl ?_
                refine H76.ld (i := 0) rfl rfl ?_
                have hnx := c6.2.1
                have hpw := pow_bits c6.1
                refine kW_i64 (by omega) ?_
                refine serial_Low_ct.mono ?_
                rintro _ w77 ⟨rfl, hb77⟩; have H77 := H76.pass hb77
                have hbb := c6.1
                obtain ⟨hbb1, hbb2⟩ := hbb
                rw [if_pos (by omega)]
                refine ⟨_, rfl, ?_⟩
                refine ⟨keepB1 (H76.ok 3 _ rfl) (H77.ok 3 _ rfl), ?_⟩
                clear H76
                refine H77.set (i := 3) rfl (by show 2 < 4; decide) ?_; clear H77; intro w78 H78
                refine H78.set (i := 3) rfl (by show 3 < 4; decide) ?_; clear H78; intro w79 H79
                refine H79.set (i := 3) rfl (by show 1 < 4; decide) ?_; clear H79; intro w80 H80
                refine ⟨_, _, _, _, _, _, H80.cells (i := 3) rfl, ?_⟩
                refine H80.store (i := 1) rfl (by rfl) (by rfl) ?_; clear H80; intro w81 H81
                refine ⟨_, _, _, _, _, _, H81.cells (i := 1) rfl, ?_⟩
                rw [hB2]
                have ha : afterC x d l cu.1.data.length = { x with q := l, sent := 0, next := (x.next + 1) % 2 ^ x.bits.toNat } := by unfold afterC; rw [if_pos (by rw [hyd.1] at c1; exact c1)]
                rw [ha]
                have el : x.q.length - (1 : Int).toNat = l.length := by rw [hq]; simp
                refine ⟨slAddr uc 1 1 (some ⟨g, 0, none⟩), uc - 1, ra, rc, ?_, hrc, ?_⟩
                · rw [el]; rfl
                · have hce := H81.capE (i := 2) rfl
                  have K := (H81.shareE encBL_ok (i := 2) rfl).fin
                  refine K.imp fun w h => ⟨?_, h.2.1⟩
                  show QR w (slAddr uc 1 1 (some ⟨g, 0, none⟩)) l
                  have e2 : (L.drop 1).take (L.drop 1).length = L' := by rw [List.take_length, hLe]; rfl
                  have h1 := h.1.cutE hce (L.drop 1).length (l := 1)
                  rw [e2] at h1
                  rw [← hyd.2]
                  exact up_qr h1 fun z hz => h.2.2.2 z (by rw [hLe]; simp [hz])
              · refine ⟨_, _, _, _, _, _, H75.cells (i := 3) rfl, ?_⟩
                refine H75.store (i := 1) rfl (by rfl) (by rfl) ?_; clear H75; intro w82 H82
                refine ⟨_, _, _, _, _, _, H82.cells (i := 1) rfl, ?_⟩
                rw [hB2]
                have ha : afterC x d l cu.1.data.length = { x with sent := x.sent + cu.1.data.length } := by unfold afterC; rw [if_neg (by rw [hyd.1] at c1; exact c1)]
                rw [ha]
                refine ⟨some ⟨g, 0, none⟩, uc, ra, rc, rfl, hrc, ?_⟩
                have K := (H82.shareE encBL_ok (i := 2) rfl).fin
                exact K.imp fun w h => ⟨by show QR w _ x.q; rw [← hL]; exact up_qr h.1 h.2.2.2, h.2.1⟩
          · refine H8.drew ?_; clear H8; intro w11 H11
            refine ⟨(· < w11.heap.size), ?_⟩
            have c0 := H11.cellEl encBL_ok (i := 2) rfl hL0 (j := 0) (v := .slice y.a y.d.length y.c) (by decide) (by rw [hy0]; rfl)
            refine ⟨H11.lt (i := 0) rfl rfl, ?_⟩
            refine H11.ld (i := 0) rfl rfl ?_
            refine ⟨H11.lt (i := 0) rfl rfl, ?_⟩
            refine H11.ld (i := 0) rfl rfl ?_
            refine ⟨H11.lt (i := 0) rfl rfl, ?_⟩
            refine H11.ld (i := 0) rfl rfl ?_
            refine ⟨H11.lt (i := 3) rfl rfl, ?_⟩
            refine H11.ldS (i := 3) rfl rfl ?_
            refine kIx_at ⟨by omega, by omega⟩ ?_
            refine ⟨cell_lt c0, ?_⟩
            refine ⟨_, _, _, c0, ?_⟩
            refine ⟨H11.lt (i := 0) rfl rfl, ?_⟩
            refine H11.ld (i := 0) rfl rfl ?_
            obtain ⟨n, hn⟩ := natOf hs0
            have hyl : y.d.length = d.length := by rw [hyd.1]
            refine ⟨⟨by omega, by omega⟩, ?_⟩
            have hrl : y.d.length - x.sent.toNat = (restP x d).data.length := by show _ = (d.drop _).length; rw [hyl]; simp
            have hda : ∀ {w}, DaB L w → SlR (IntC .u8) 1 w (slAddr y.c x.sent.toNat 1 y.a) (restP x d).data := fun h => by
              have h1 := (h y hym).1.cut (h y hym).2 (l := x.sent.toNat) (y.d.drop x.sent.toNat).length
              rw [List.take_length, hyd.1] at h1
              exact h1
            have hcp : (restP x d).data.length ≤ y.c - x.sent.toNat := by
              have := (H11.get y hym).2
              rw [← hrl]; omega
            rw [hrl]
            have hpc : ∀ {w' : World} {T : List Res} {K : Ending → World → Prop}, St (fun _ => False) [] w w' T (DaB L) →
                (∀ w'', Below w'.heap.size w' w'' → St (fun _ => False) [] w w'' T (DaB L) → K (.returned (.agg #[.int .i64 x.next, .int .i64 (if x.sent = 0 then 0 else 2), .int .i64 0, .int .i64 x.sent, .slice (slAddr y.c x.sent.toNat 1 y.a) (restP x d).data.length (y.c - x.sent.toNat)])) w'') →
                Calls Try.prog N_unack_piece #[.int .i64 x.next, .int .i64 x.sent, .slice (slAddr y.c x.sent.toNat 1 y.a) (restP x d).data.length (y.c - x.sent.toNat)] w' K := fun {w' T K} H hK => by
              refine unack_piece_ct.mono ?_
              rintro _ w'' ⟨rfl, hb⟩
              exact hK w'' hb (H.pass hb)
            have hcut : ∀ {w' : World} {T : List Res} {K : Ending → World → Prop}, St (fun _ => False) [] w w' T (DaB L) →
                (∀ pa pc pa' pc' w'', Below w'.heap.size w' w'' → St (fun _ => False) [] w w'' T (fun w => SlR (IntC .u8) 1 w pa cu.1.data ∧ DaB L w) → K (.returned (.tuple #[.agg #[.int .i64 cu.1.sn, .int .i64 cu.1.part, .int .i64 cu.1.poll, .int .i64 cu.1.off, .slice pa cu.1.data.length pc], .agg #[.int .i64 cu.2.1.sn, .int .i64 cu.2.1.part, .int .i64 cu.2.1.poll, .int .i64 cu.2.1.off, .slice pa' cu.2.1.data.length pc'], .int .i64 cu.2.2])) w'') →
                Calls Try.prog N_segment_Cut #[.int .i64 x.bits, .agg #[.int .i64 x.next, .int .i64 (if x.sent = 0 then 0 else 2), .int .i64 0, .int .i64 x.sent, .slice (slAddr y.c x.sent.toNat 1 y.a) (restP x d).data.length (y.c - x.sent.toNat)], .int .i64 size] w' K := fun {w' T K} H hK => by
              have C := segment_Cut_ct (bits := x.bits) (p_0 := x.next) (p_1 := if x.sent = 0 then 0 else 2) (p_2 := 0) (p_3 := x.sent) (p_4_c := y.c - x.sent.toNat) (hda H.get) (by omega) hcp hsz
              have e1 : (⟨x.next, if x.sent = 0 then 0 else 2, 0, x.sent, (restP x d).data⟩ : Pc) = restP x d := rfl
              rw [e1, ← hcu] at C
              refine C.mono ?_
              rintro _ w25 ⟨pa, pc, pa', pc', hpc, hpc', rfl, K25⟩
              have H25 := H.callF K25
              simp only [List.append_nil] at H25
              exact hK pa pc pa' pc' w25 K25.below (H25.imp fun w h => ⟨h.1.1, h.2⟩)
            have fin2 : ∀ {w' : World} {bp bq : Nat} {pa pa' : Option Addr} {pc pc' : Nat} {cs1 cs2 : List Value}, cs1.length = 5 → cs2.length = 5 →
                St (fun _ => False) [] w w' (.blk b Ty_api_Cutter (encCu x a c) :: .blk b1 Ty_api_Cutter [.int .i64 0, .int .i64 0, .slice none 0 0, .int .i64 0] :: .els encBL Ty_S_uint8 1 (some ⟨g, 0, none⟩) uc L :: .blk b2 Ty_api_Cutter (encCu x (some ⟨g, 0, none⟩) uc) :: .blk bp Ty_api_Piece cs1 :: .blk bq Ty_api_Piece cs2 :: []) (fun w => SlR (IntC .u8) 1 w pa cu.1.data ∧ DaB L w) →
                sxStore w' ⟨bp, 0, none⟩ 0 (encPc cu.1 pa pc) fun w48 => sxStore w48 ⟨bq, 0, none⟩ 0 (encPc cu.2.1 pa' pc') fun w49 =>
                  (cu.2.2 = cu.2.2 ∧ ∃ (bp' : Nat) (pa : Option Addr) (pc : Nat), (⟨bp, 0, none⟩ : Addr) = (⟨bp', 0, none⟩ : Addr) ∧
                    St (fun _ => False) [] w w49 [.blk b Ty_api_Cutter (encCu x a c), .blk b1 Ty_api_Cutter [.int .i64 0, .int .i64 0, .slice none 0 0, .int .i64 0], .els encBL Ty_S_uint8 1 (some ⟨g, 0, none⟩) uc L, .blk b2 Ty_api_Cutter (encCu x (some ⟨g, 0, none⟩) uc), .blk bp' Ty_api_Piece (encPc cu.1 pa pc)] (fun w => SlR (IntC .u8) 1 w pa cu.1.data ∧ DaB L w)) := fun {w' bp bq pa pa' pc pc' cs1 cs2} h1 h2 H => by
              refine H.store (i := 4) rfl (by rw [h1]; rfl) (by rfl) ?_; intro w48 H48
              simp only [List.set_cons_succ, List.set_cons_zero] at H48
              refine H48.store (i := 5) rfl (by rw [h2]; rfl) (by rfl) ?_; intro w49 H49
              simp only [List.set_cons_succ, List.set_cons_zero] at H49
              exact ⟨rfl, bp, pa, pc, rfl, St.dropLast (R := [_, _, _, _, _]) H49⟩
            have hb0 := Below.refl w11.heap.size w11
            refine ⟨?_, ?_, ?_, trivial⟩
            · refine hpc H11 fun w12 hb12 H12 => ?_
              refine ⟨_, _, _, _, _, _, _, rfl, ?_⟩
              have j12 := below_step hb0 (Nat.le_refl _) hb12
              refine ⟨j12.keeps, ?_⟩
              refine ⟨?_, ?_, ?_, trivial⟩
              · refine hcut H12 fun pa pc pa' pc' w13 hb13 H13 => ?_
                refine ⟨_, _, _, _, _, _, _, _, _, _, _, _, _, _, _, rfl, ?_⟩
                have j13 := below_step j12 (Nat.le_refl _) hb13
                refine ⟨j13.keeps, ?_⟩
                refine ⟨?_, ?_, trivial⟩
                · refine H13.allocB ?_; intro b4 w14 hb14 H14
                  have j14 := below_step j13 (Nat.le_refl _) hb14
                  refine ⟨j14.keeps, ?_⟩
                  refine H14.allocB ?_; intro b5 w15 hb15 H15
                  have j15 := below_step j14 (Nat.le_refl _) hb15
                  refine ⟨j15.keeps, ?_⟩
                  exact fin2 rfl rfl H15
                · refine H13.allocB ?_; intro b4 w14 hb14 H14
                  have j14 := below_step j13 (Nat.le_refl _) hb14
                  refine ⟨j14.keeps, ?_⟩
                  refine H14.allocB ?_; intro b5 w15 hb15 H15
                  have j15 := below_step j14 (Nat.le_refl _) hb15
                  refine ⟨j15.keeps, ?_⟩
                  exact fin2 rfl rfl (St.lastTo (X := [_, _, _, _]) H15)
              · refine H12.allocB ?_; intro b4 w14 hb14 H14
                have j14 := below_step j12 (Nat.le_refl _) hb14
                refine ⟨j14.keeps, ?_⟩
                refine ⟨?_, ?_, trivial⟩
                · refine hcut H14 fun pa pc pa' pc' w13 hb13 H13 => ?_
                  refine ⟨_, _, _, _, _, _, _, _, _, _, _, _, _, _, _, rfl, ?_⟩
                  have j13 := below_step j14 (Nat.le_refl _) hb13
                  refine ⟨j13.keeps, ?_⟩
                  refine H13.allocB ?_; intro b5 w15 hb15 H15
                  have j15 := below_step j13 (Nat.le_refl _) hb15
                  refine ⟨j15.keeps, ?_⟩
                  exact fin2 rfl rfl H15
                · refine H14.allocB ?_; intro b5 w15 hb15 H15
                  have j15 := below_step j14 (Nat.le_refl _) hb15
                  refine ⟨j15.keeps, ?_⟩
                  refine hcut H15 fun pa pc pa' pc' w13 hb13 H13 => ?_
                  refine ⟨_, _, _, _, _, _, _, _, _, _, _, _, _, _, _, rfl, ?_⟩
                  have j13 := below_step j15 (Nat.le_refl _) hb13
                  refine ⟨j13.keeps, ?_⟩
                  exact fin2 rfl rfl H13
              · refine H12.allocB ?_; intro b4 w14 hb14 H14
                have j14 := below_step j12 (Nat.le_refl _) hb14
                refine ⟨j14.keeps, ?_⟩
                refine ⟨?_, ?_, trivial⟩
                · refine hcut H14 fun pa pc pa' pc' w13 hb13 H13 => ?_
                  refine ⟨_, _, _, _, _, _, _, _, _, _, _, _, _, _, _, rfl, ?_⟩
                  have j13 := below_step j14 (Nat.le_refl _) hb13
                  refine ⟨j13.keeps, ?_⟩
                  refine H13.allocB ?_; intro b5 w15 hb15 H15
                  have j15 := below_step j13 (Nat.le_refl _) hb15
                  refine ⟨j15.keeps, ?_⟩
                  exact fin2 rfl rfl (St.lastTo (X := [_, _, _, _]) H15)
                · refine H14.allocB ?_; intro b5 w15 hb15 H15
                  have j15 := below_step j14 (Nat.le_refl _) hb15
                  refine ⟨j15.keeps, ?_⟩
                  refine hcut H15 fun pa pc pa' pc' w13 hb13 H13 => ?_
                  refine ⟨_, _, _, _, _, _, _, _, _, _, _, _, _, _, _, rfl, ?_⟩
                  have j13 := below_step j15 (Nat.le_refl _) hb13
                  refine ⟨j13.keeps, ?_⟩
                  exact fin2 rfl rfl (St.lastTo (X := [_, _, _, _]) H13)
            · refine H11.allocB ?_; intro b4 w14 hb14 H14
              have j14 := below_step hb0 (Nat.le_refl _) hb14
              refine ⟨j14.keeps, ?_⟩
              refine ⟨?_, ?_, trivial⟩
              · refine hpc H14 fun w12 hb12 H12 => ?_
                refine ⟨_, _, _, _, _, _, _, rfl, ?_⟩
                have j12 := below_step j14 (Nat.le_refl _) hb12
                refine ⟨j12.keeps, ?_⟩
                refine ⟨?_, ?_, trivial⟩
                · refine hcut H12 fun pa pc pa' pc' w13 hb13 H13 => ?_
                  refine ⟨_, _, _, _, _, _, _, _, _, _, _, _, _, _, _, rfl, ?_⟩
                  have j13 := below_step j12 (Nat.le_refl _) hb13
                  refine ⟨j13.keeps, ?_⟩
                  refine H13.allocB ?_; intro b5 w15 hb15 H15
                  have j15 := below_step j13 (Nat.le_refl _) hb15
                  refine ⟨j15.keeps, ?_⟩
                  exact fin2 rfl rfl H15
                · refine H12.allocB ?_; intro b5 w15 hb15 H15
                  have j15 := below_step j12 (Nat.le_refl _) hb15
                  refine ⟨j15.keeps, ?_⟩
                  refine hcut H15 fun pa pc pa' pc' w13 hb13 H13 => ?_
                  refine ⟨_, _, _, _, _, _, _, _, _, _, _, _, _, _, _, rfl, ?_⟩
                  have j13 := below_step j15 (Nat.le_refl _) hb13
                  refine ⟨j13.keeps, ?_⟩
                  exact fin2 rfl rfl H13
              · refine H14.allocB ?_; intro b5 w15 hb15 H15
                have j15 := below_step j14 (Nat.le_refl _) hb15
                refine ⟨j15.keeps, ?_⟩
                refine hpc H15 fun w12 hb12 H12 => ?_
                refine ⟨_, _, _, _, _, _, _, rfl, ?_⟩
                have j12 := below_step j15 (Nat.le_refl _) hb12
                refine ⟨j12.keeps, ?_⟩
                refine hcut H12 fun pa pc pa' pc' w13 hb13 H13 => ?_
                refine ⟨_, _, _, _, _, _, _, _, _, _, _, _, _, _, _, rfl, ?_⟩
                have j13 := below_step j12 (Nat.le_refl _) hb13
                refine ⟨j13.keeps, ?_⟩
                exact fin2 rfl rfl H13
            · refine H11.allocB ?_; intro b4 w14 hb14 H14
              have j14 := below_step hb0 (Nat.le_refl _) hb14
              refine ⟨j14.keeps, ?_⟩
              refine ⟨?_, ?_, trivial⟩
              · refine hpc H14 fun w12 hb12 H12 => ?_
                refine ⟨_, _, _, _, _, _, _, rfl, ?_⟩
                have j12 := below_step j14 (Nat.le_refl _) hb12
                refine ⟨j12.keeps, ?_⟩
                refine ⟨?_, ?_, trivial⟩
                · refine hcut H12 fun pa pc pa' pc' w13 hb13 H13 => ?_
                  refine ⟨_, _, _, _, _, _, _, _, _, _, _, _, _, _, _, rfl, ?_⟩
                  have j13 := below_step j12 (Nat.le_refl _) hb13
                  refine ⟨j13.keeps, ?_⟩
                  refine H13.allocB ?_; intro b5 w15 hb15 H15
                  have j15 := below_step j13 (Nat.le_refl _) hb15
                  refine ⟨j15.keeps, ?_⟩
                  exact fin2 rfl rfl (St.lastTo (X := [_, _, _, _]) H15)
                · refine H12.allocB ?_; intro b5 w15 hb15 H15
                  have j15 := below_step j12 (Nat.le_refl _) hb15
                  refine ⟨j15.keeps, ?_⟩
                  refine hcut H15 fun pa pc pa' pc' w13 hb13 H13 => ?_
                  refine ⟨_, _, _, _, _, _, _, _, _, _, _, _, _, _, _, rfl, ?_⟩
                  have j13 := below_step j15 (Nat.le_refl _) hb13
                  refine ⟨j13.keeps, ?_⟩
                  exact fin2 rfl rfl (St.lastTo (X := [_, _, _, _]) H13)
              · refine H14.allocB ?_; intro b5 w15 hb15 H15
                have j15 := below_step j14 (Nat.le_refl _) hb15
                refine ⟨j15.keeps, ?_⟩
                refine hpc H15 fun w12 hb12 H12 => ?_
                refine ⟨_, _, _, _, _, _, _, rfl, ?_⟩
                have j12 := below_step j15 (Nat.le_refl _) hb12
                refine ⟨j12.keeps, ?_⟩
                refine hcut H12 fun pa pc pa' pc' w13 hb13 H13 => ?_
                refine ⟨_, _, _, _, _, _, _, _, _, _, _, _, _, _, _, rfl, ?_⟩
                have j13 := below_step j12 (Nat.le_refl _) hb13
                refine ⟨j13.keeps, ?_⟩
                exact fin2 rfl rfl (St.lastTo (X := [_, _, _, _]) H13)
    · refine bsplit_dec (fun c => ?_) (fun c => ?_)
      · exact ⟨⟨fun _ => .inl c, fun _ => rfl⟩, H6⟩
      · refine kLet_in ?_
        exact ⟨by rw [decide_eq_true_iff]; omega, H6⟩
end
end Go.Proofs.Ytlgolgpellbnbaa
/- CHAPTER 23: Build of the reference. -/
namespace Go.Proofs.Ytlgolgpellbnbaa
open Go.Sx Go.RowKit
set_option maxRecDepth 100000
def RetCBA (A : Nat → Prop) (w : World) (x : Cu × List Int × Int) (e : Ending) (w' : World) : Prop :=
  ∃ a c L ba bc, L.map (·.d) = x.1.q ∧ e = .returned (.tuple #[aggCu x.1 a c, .slice ba x.2.1.length bc, .int .i64 x.2.2]) ∧ x.2.1.length ≤ bc ∧ x.1.q.length ≤ c ∧ St A [] w w' [] fun w => SlR (IntC .u8) 1 w ba x.2.1 ∧ QL L a w
section
variable {x : Cu} {a : Option Addr} {c : Nat} {w : World} {size : Int}
theorem ref23_Build_ct {A : Nat → Prop} {L : List BL} (hL : L.map (·.d) = x.q) (hQ : Held A w (QL L a)) (hm : SmQ x.q) (hxc : x.q.length ≤ c) (hsz : -9223372036854775808 ≤ size ∧ size ≤ 9223372036854775807) :
    Calls Try.prog N_ref23_Build #[aggCu x a c, .int .i64 size] w (RetCBA A w (buildC x size)) := by
  apply F_ref23_Build_ok
  unfold F_ref23_Build
  have H := St.start hQ
  have hq' : ∀ {w}, QL L a w → QR w a x.q := fun h => by rw [← hL]; exact h.qr
  have hLl : L.length = x.q.length := by rw [← hL, List.length_map]
  refine H.alloc ?_; clear H; intro b w1 H1
  refine H1.alloc ?_; clear H1; intro b1 w2 H2
  refine ⟨_, _, _, _, _, _, H2.cells (i := 0) rfl, ?_⟩
  refine (ref23_Valid_ct (hq' H2.get) hm).mono ?_
  rintro _ w3 ⟨rfl, hb3⟩; have H3 := H2.pass hb3; clear H2
  refine ⟨_, rfl, ?_⟩
  replace H3 : St A [] w w3 [.blk b Ty_api_Cutter (encCu x a c), .blk b1 Ty_api_Cutter [.int .i64 0, .int .i64 0, .slice none 0 0, .int .i64 0]] (QL L a) := H3
  have fin : ∀ {w' : World} {T : List Res} {E : Int} {P : World → Prop}, buildC x size = (x, [], E) → (∀ w, P w → QL L a w) → St A [] w w' (.blk b Ty_api_Cutter (encCu x a c) :: .blk b1 Ty_api_Cutter [.int .i64 0, .int .i64 0, .slice none 0 0, .int .i64 0] :: T) P →
      sxStore w' ⟨b1, 0, none⟩ 0 (encCu x a c) fun w7 => ∃ x_0 x_1 x_a x_l x_c x_3, cellsAt w7 ⟨b1, 0, none⟩ 0 [.int .i64 x_0, .int .i64 x_1, .slice x_a x_l x_c, .int .i64 x_3] ∧
        RetCBA A w (buildC x size) (.returned (.tuple #[.agg #[.int .i64 x_0, .int .i64 x_1, .slice x_a x_l x_c, .int .i64 x_3], .slice none 0 0, .int .i64 E])) w7 := fun {w' T E P} hE hP H => by
    refine H.store (i := 1) rfl (by rfl) (by rfl) ?_; intro w7 H7
    refine ⟨_, _, _, _, _, _, H7.cells (i := 1) rfl, ?_⟩
    rw [hE]
    exact ⟨a, c, L, none, 0, hL, rfl, Nat.le_refl _, hxc, H7.fin.imp fun w h => ⟨.nil, hP _ h⟩⟩
  refine bsplit_nd (fun c6 => ?_) (fun c6 => ?_)
  · refine ⟨_, _, _, _, _, _, H3.cells (i := 0) rfl, ?_⟩
    exact fin (by unfold buildC; rw [if_pos c6]) (fun _ h => h) H3
  · refine ⟨fun x1 w8 => (x1 = true ↔ size < 0 ∨ size > 4096) ∧ St A [] w w8 [.blk b Ty_api_Cutter (encCu x a c), .blk b1 Ty_api_Cutter [.int .i64 0, .int .i64 0, .slice none 0 0, .int .i64 0]] (QL L a), ?_, ?_⟩
    · rintro _ x1 w5 ⟨hj, H5⟩
      refine bsplit_intro (fun c5 => ?_) (fun c5 => ?_)
      · refine ⟨_, _, _, _, _, _, H5.cells (i := 0) rfl, ?_⟩
        exact fin (by unfold buildC; rw [if_neg (fun h => h c6), if_pos (hj.1 c5)]) (fun _ h => h) H5
      · have hsz2 : ¬ (size < 0 ∨ size > 4096) := fun h => by rw [hj.2 h] at c5; cases c5
        refine H5.ldS (i := 0) rfl rfl ?_
        refine kLet_in ?_
        refine bsplit_dec (fun c4 => ?_) (fun c4 => ?_)
        · refine ⟨_, _, _, _, _, _, H5.cells (i := 0) rfl, ?_⟩
          have hq : x.q = [] := List.eq_nil_of_length_eq_zero (by omega)
          exact fin (by unfold buildC; rw [if_neg (fun h => h c6), if_neg hsz2, hq]) (fun _ h => h) H5
        · obtain ⟨d, l, hq⟩ : ∃ d l, x.q = d :: l := by
            cases hq : x.q with
            | nil => rw [hq] at c4; simp at c4
            | cons d l => exact ⟨d, l, rfl⟩
          obtain ⟨y, L', hLe⟩ : ∃ y L', L = y :: L' := by
            cases hLe : L with
            | nil => rw [hLe, hq] at hLl; simp at hLl
            | cons y L' => exact ⟨y, L', rfl⟩
          have hyd : y.d = d ∧ L'.map (·.d) = l := by
            rw [hLe, hq] at hL
            injection hL with h1 h2
            exact ⟨h1, h2⟩
          have hym : y ∈ L := by rw [hLe]; simp
          have hyl : y.d.length = d.length := by rw [hyd.1]
          have hro := rest_ok c6 hq
          have hdo := c6.2.2.2.2.1 d (by rw [hq]; simp)
          obtain ⟨hd1, hd2⟩ := hdo
          have hs0 := c6.2.2.2.1
          have hs1 : x.sent < d.length := by have h := c6.2.2.2.2.2; unfold headOk at h; rw [hq] at h; exact h
          obtain ⟨cu, hcu⟩ : ∃ cu, cu = cutP x.bits (restP x d) size := ⟨_, rfl⟩
          have hB : buildC x size = if cu.2.2 ≠ 0 then (x, [], cu.2.2) else (afterC x d l cu.1.data.length, (encP x.bits cu.1).1, 0) := by
            unfold buildC; rw [if_neg (fun h => h c6), if_neg hsz2, hq, hcu]
          have hbb := c6.1
          obtain ⟨hbb1, hbb2⟩ := hbb
          have hnx := c6.2.1
          have hpw := pow_bits c6.1
          have hq256 := c6.2.2.1
          have hix : ∀ {w' : World} {F : Addr → Prop}, QL L a w' → (∀ b7, CE encBL w' (b7.add ((0 : Int).toNat * 1)) y → F b7) → kIx a x.q.length 0 F := fun {w' F} h hF => by
            rw [← hLl]
            refine ixE h.1 0 rfl (by omega) fun b7 z hz hb7 => ?_
            obtain rfl : y = z := by rw [hLe] at hz; exact Option.some.inj hz
            exact hF b7 hb7
          have hrl : y.d.length - x.sent.toNat = (restP x d).data.length := by show _ = (d.drop _).length; rw [hyl]; simp
          have hda : ∀ {w}, QL L a w → SlR (IntC .u8) 1 w (slAddr y.c x.sent.toNat 1 y.a) (restP x d).data := fun h => by
            have h1 := (h.2 y hym).1.cut (h.2 y hym).2 (l := x.sent.toNat) (y.d.drop x.sent.toNat).length
            rw [List.take_length, hyd.1] at h1
            exact h1
          have hcp : (restP x d).data.length ≤ y.c - x.sent.toNat := by
            have := (H5.get.2 y hym).2
            rw [← hrl]; omega
          refine ⟨fun p w13 => ∃ bp : Nat, p = (⟨bp, 0, none⟩ : Addr) ∧ St A [] w w13 [.blk b Ty_api_Cutter (encCu x a c), .blk b1 Ty_api_Cutter [.int .i64 0, .int .i64 0, .slice none 0 0, .int .i64 0], .blk bp Ty_api_Piece [.int .i64 x.next, .int .i64 0, .int .i64 0, .int .i64 x.sent, .slice (slAddr y.c x.sent.toNat 1 y.a) (restP x d).data.length (y.c - x.sent.toNat)]] (QL L a), ?_, ?_⟩
          · rintro _ _ w13 ⟨bp, rfl, H13⟩
            clear H5
            refine ⟨fun w15 => St A [] w w15 [.blk b Ty_api_Cutter (encCu x a c), .blk b1 Ty_api_Cutter [.int .i64 0, .int .i64 0, .slice none 0 0, .int .i64 0], .blk bp Ty_api_Piece [.int .i64 x.next, .int .i64 (if x.sent = 0 then 0 else 2), .int .i64 0, .int .i64 x.sent, .slice (slAddr y.c x.sent.toNat 1 y.a) (restP x d).data.length (y.c - x.sent.toNat)]] (QL L a), ?_, ?_⟩
            · rintro _ w15 H15
              clear H13
              refine H15.ld (i := 0) rfl rfl ?_
              refine ⟨_, _, _, _, _, _, _, H15.cells (i := 2) rfl, ?_⟩
              have C := ref18_Cut_ct (bits := x.bits) (p_0 := x.next) (p_1 := if x.sent = 0 then 0 else 2) (p_2 := 0) (p_3 := x.sent) (p_4_c := y.c - x.sent.toNat) (hda H15.get) (by omega) hcp hsz
              have e1 : (⟨x.next, if x.sent = 0 then 0 else 2, 0, x.sent, (restP x d).data⟩ : Pc) = restP x d := rfl
              rw [e1, ← hcu] at C
              refine C.mono ?_; clear C
              rintro _ w16 ⟨pa, pc, pa', pc', hpc, hpc', rfl, K⟩; have H16 := H15.callF K; clear K H15
              rw [List.append_nil] at H16
              refine ⟨_, _, _, _, _, _, _, _, _, _, _, _, _, _, _, rfl, ?_⟩
              refine H16.alloc ?_; clear H16; intro b5 w17 H17
              refine H17.alloc ?_; clear H17; intro b6 w18 H18
              simp only [List.cons_append, List.nil_append] at H18
              refine H18.store (i := 3) rfl (by rfl) (by rfl) ?_; clear H18; intro w19 H19
              refine H19.store (i := 4) rfl (by rfl) (by rfl) ?_; clear H19; intro w20 H20
              replace H20 : St A [] w w20 [.blk b Ty_api_Cutter (encCu x a c), .blk b1 Ty_api_Cutter [.int .i64 0, .int .i64 0, .slice none 0 0, .int .i64 0], .blk bp Ty_api_Piece [.int .i64 x.next, .int .i64 (if x.sent = 0 then 0 else 2), .int .i64 0, .int .i64 x.sent, .slice (slAddr y.c x.sent.toNat 1 y.a) (restP x d).data.length (y.c - x.sent.toNat)], .blk b5 Ty_api_Piece (encPc cu.1 pa pc)] (fun w => SlR (IntC .u8) 1 w pa cu.1.data ∧ QL L a w) := (St.dropLast (R := [_, _, _, _]) H20).imp fun _ h => ⟨h.1.1, h.2⟩
              refine bsplit_nd (fun c3 => ?_) (fun c3 => ?_)
              · refine ⟨_, _, _, _, _, _, H20.cells (i := 0) rfl, ?_⟩
                exact fin (by rw [hB, if_pos c3]) (fun _ h => h.2) H20
              · have hc0 : (cutP x.bits (restP x d) size).2.2 = 0 := by rw [← hcu]; simpa using c3
                obtain ⟨k1, k2, k3⟩ := cut_ok hro hc0
                rw [← hcu] at k1 k2 k3
                have k4 : cu.1.data.length ≤ d.length := by
                  have := congrArg List.length k2
                  rw [List.length_take] at this
                  have h2 : (restP x d).data.length ≤ d.length := by show (d.drop _).length ≤ _; simp
                  omega
                have hB2 : buildC x size = (afterC x d l cu.1.data.length, cu.1.bytes, 0) := by rw [hB, if_neg (fun h => h c3), enc_ok k1]
                refine H20.ld (i := 0) rfl rfl ?_
                refine ⟨_, _, _, _, _, _, _, H20.cells (i := 3) rfl, ?_⟩
                have C := ref18_Encode_ct (bits := x.bits) (p_0 := cu.1.sn) (p_1 := cu.1.part) (p_2 := cu.1.poll) (p_3 := cu.1.off) (p_4_c := pc) H20.get.1 (by omega)
                have e1 : (⟨cu.1.sn, cu.1.part, cu.1.poll, cu.1.off, cu.1.data⟩ : Pc) = cu.1 := rfl
                rw [e1, enc_ok k1] at C
                refine C.mono ?_; clear C
                rintro _ w22 ⟨ra, rc, hrc, rfl, K⟩; have H22 := H20.callF K; clear K H20
                rw [List.append_nil] at H22
                refine ⟨_, _, _, _, rfl, ?_⟩
                refine H22.ld (i := 0) rfl rfl ?_
                refine H22.ldS (i := 3) rfl rfl ?_
                refine kW_i64 (by omega) ?_
                refine H22.set (i := 0) rfl (by show 3 < 4; decide) ?_; clear H22; intro w23 H23
                refine H23.drew ?_; clear H23; intro w24 H24
                replace H24 : St A [] w w24 [.blk b Ty_api_Cutter [.int .i64 x.bits, .int .i64 x.next, .slice a x.q.length c, .int .i64 (x.sent + cu.1.data.length)], .blk b1 Ty_api_Cutter [.int .i64 0, .int .i64 0, .slice none 0 0, .int .i64 0]] (fun w => SlR (IntC .u8) 1 w ra cu.1.bytes ∧ QL L a w) := (St.left (X := [_, _]) H24).imp fun _ h => ⟨h.1, h.2.2⟩
                refine H24.ld (i := 0) rfl rfl ?_
                refine H24.ldS (i := 0) rfl rfl ?_
                refine hix H24.get.2 fun b7 hb7 => ?_
                refine ⟨_, _, _, hb7.1, ?_⟩
                refine bsplit_dec (fun c2 => ?_) (fun c2 => ?_)
                · have ha : afterC x d l cu.1.data.length = { x with q := l, sent := 0, next := (x.next + 1) % 2 ^ x.bits.toNat } := by unfold afterC; rw [if_pos (by rw [hyd.1] at c2; exact c2)]
                  refine H24.set (i := 0) rfl (by show 3 < 4; decide) ?_; clear H24; intro w25 H25
                  refine H25.ld (i := 0) rfl rfl ?_
                  refine kW_i64 (by omega) ?_
                  refine H25.ld (i := 0) rfl rfl ?_
                  refine kW_u64 (by omega) ?_
                  refine ⟨by omega, ?_⟩
                  refine kShl1 (by omega) ?_
                  refine ⟨by omega, ?_⟩
                  refine kTmod (by omega) ?_
                  refine H25.set (i := 0) rfl (by show 1 < 4; decide) ?_; clear H25; intro w26 H26
                  refine H26.alloc ?_; clear H26; intro b8 w27 H27
                  simp only [List.set_cons_zero, List.cons_append, List.nil_append, List.set_cons_succ] at H27
                  have H27 := H27.litE encBL_ok (i := 2) [] rfl (by decide)
                  refine H27.ldS (i := 0) rfl rfl ?_
                  refine ⟨⟨by omega, by omega⟩, ?_⟩
                  have el : x.q.length - (1 : Int).toNat = L'.length := by rw [← hLl, hLe]; simp
                  rw [el]
                  have hcc : L.length ≤ c := by omega
                  have hs1 : SlR (CE encBL) 1 w27 (slAddr c (1 : Int).toNat 1 a) L' := by
                    have h1 := H27.get.2.1.cutE hcc (L.drop 1).length (l := 1)
                    have e2 : (L.drop 1).take (L.drop 1).length = L' := by rw [List.take_length, hLe]; rfl
                    rw [e2] at h1
                    exact h1
                  refine H27.appE encBL_ok (i := 2) rfl sl_Ty_S_S_uint8 hs1 (by simp; omega) (by simp; omega) ?_
                  intro x_a7 x_c7 w28 H28
                  simp only [List.set_cons_succ, List.set_cons_zero, List.nil_append] at H28
                  refine H28.set (i := 0) rfl (by show 2 < 4; decide) ?_; clear H28; intro w29 H29
                  refine ⟨_, _, _, _, _, _, H29.cells (i := 0) rfl, ?_⟩
                  refine H29.store (i := 1) rfl (by rfl) (by rfl) ?_; clear H29; intro w30 H30
                  refine ⟨_, _, _, _, _, _, H30.cells (i := 1) rfl, ?_⟩
                  rw [hB2, ha]
                  have el2 : L'.length = l.length := by rw [← hyd.2, List.length_map]
                  refine ⟨x_a7, x_c7, L', ra, rc, hyd.2, ?_, hrc, ?_, ?_⟩
                  · rw [List.nil_append, el2]
                  · have := H30.capE (i := 2) rfl
                    show l.length ≤ _
                    rw [← el2]; exact this
                  · have K := (H30.shareE encBL_ok (i := 2) rfl).fin
                    exact K.imp fun w h => ⟨h.2.1, h.1, fun z hz => h.2.2.2 z (by rw [hLe]; simp [hz])⟩
                · have ha : afterC x d l cu.1.data.length = { x with sent := x.sent + cu.1.data.length } := by unfold afterC; rw [if_neg (by rw [hyd.1] at c2; exact c2)]
                  refine ⟨_, _, _, _, _, _, H24.cells (i := 0) rfl, ?_⟩
                  refine H24.store (i := 1) rfl (by rfl) (by rfl) ?_; clear H24; intro w31 H31
                  refine ⟨_, _, _, _, _, _, H31.cells (i := 1) rfl, ?_⟩
                  rw [hB2, ha]
                  exact ⟨a, c, L, ra, rc, hL, rfl, hrc, hxc, H31.fin⟩
            · refine H13.ld (i := 0) rfl rfl ?_
              refine bsplit_dec (fun c1 => ?_) (fun c1 => ?_)
              · try rw [add_mk]
                refine H13.set (i := 2) rfl (by show 1 < 5; decide) ?_; clear H13; intro w14 H14
                rw [if_neg (by omega)]
                exact H14
              · rw [if_pos (by omega)]
                exact H13
          · refine H5.drew ?_; clear H5; intro w8 H8
            refine ⟨(· < w8.heap.size), ?_⟩
            refine ⟨H8.lt (i := 0) rfl rfl, ?_⟩
            refine H8.ld (i := 0) rfl rfl ?_
            refine ⟨H8.lt (i := 0) rfl rfl, ?_⟩
            refine H8.ld (i := 0) rfl rfl ?_
            refine ⟨H8.lt (i := 0) rfl rfl, ?_⟩
            refine H8.ldS (i := 0) rfl rfl ?_
            refine hix H8.get fun b7 hb7 => ?_
            refine ⟨cell_lt hb7.1, ?_⟩
            refine ⟨_, _, _, hb7.1, ?_⟩
            refine ⟨H8.lt (i := 0) rfl rfl, ?_⟩
            refine H8.ld (i := 0) rfl rfl ?_
            refine ⟨⟨by omega, by omega⟩, ?_⟩
            rw [hrl]
            refine ⟨?_, ?_, trivial⟩
            · refine ⟨KeepsB.refl _ _, ?_⟩
              refine H8.allocB ?_; intro b3 w9 hb9 H9
              refine ⟨hb9.keeps, ?_⟩
              refine H9.store (i := 2) rfl (by rfl) (by rfl) ?_; intro w10 H10
              exact ⟨b3, rfl, H10⟩
            · refine H8.allocB ?_; intro b4 w11 hb11 H11
              refine ⟨hb11.keeps, ?_⟩
              refine ⟨hb11.keeps, ?_⟩
              refine H11.store (i := 2) rfl (by rfl) (by rfl) ?_; intro w12 H12
              exact ⟨b4, rfl, H12⟩
    · refine bsplit_dec (fun c => ?_) (fun c => ?_)
      · exact ⟨⟨fun _ => .inl c, fun _ => rfl⟩, H3⟩
      · refine kLet_in ?_
        exact ⟨by rw [decide_eq_true_iff]; omega, H3⟩
end
end Go.Proofs.Ytlgolgpellbnbaa
/- CHAPTER 23: equal sides; the sanity check; UnackRaw. -/
namespace Go.Sx
open Go.RowKit
theorem ba_refl (s : ByteArray) : (s == s) = true := by
  rcases s with ⟨x⟩
  show (x == x) = true
  simp
theorem Held.weaken {A : Nat → Prop} {w : World} {P Q : World → Prop} (h : Held A w P) (k : ∀ w, P w → Q w) : Held A w Q := ⟨h.1, fun w' hw => k w' (h.2 w' hw)⟩
end Go.Sx
namespace Go.Proofs.Ytlgolgpellbnbaa
open Go.Sx Go.RowKit
set_option maxRecDepth 100000
theorem ql_held {w : World} {L : List BL} {a : Option Addr} (h : QL L a w) : Held (All w) w (QL L a) :=
  ⟨fun _ h => h, fun w' hw => ⟨(sle_held h.1).2 w' hw, fun x hx => ⟨(slr_held (h.2 x hx).1).2 w' hw, (h.2 x hx).2⟩⟩⟩
theorem convBC {P : Program} {s e : TypeId} (hs : P.underlying s = some (.slice e)) (he : P.underlying e = some (.int .u8)) {w : World} (bs : List Int) {n c : Nat} (hn : n = bs.length) {F : Nat → Option Addr → Nat → Nat → World → Prop}
    (h : ∀ b w', (Fresh w w' fun w => SlR (IntC .u8) 1 w (some ⟨b, 0, none⟩) bs) → F b (some ⟨b, 0, none⟩) bs.length c w') {cs : Array Value} (hcs : cs = (bs.map (Value.int .u8)).toArray) :
    kAlloc w cs e fun b w1 => ConvB P s s (.slice (some ⟨b, 0, none⟩) n c) w1 (F b) := by
  subst hn; subst hcs
  refine ⟨_, _, _, _, Go.Lib.run_convert_bytes_const w s e _ _ c hs he, h _ _ ?_⟩
  have key : ∀ w' : World, w'.heap[w.heap.size]? = some (.cells (bs.map (Value.int .u8)).toArray e ((bs.map (Value.int .u8)).toArray.size, (bs.map (Value.int .u8)).toArray.size + 1)) → SlR (IntC .u8) 1 w' (some ⟨w.heap.size, 0, none⟩) bs := fun w' hw => by
    refine .inr ⟨_, rfl, fun i hi => ?_⟩
    show w'.cell? _ = _
    rw [add_mk, Nat.zero_add, Nat.mul_one]
    simp [World.cell?, hw, hi]
  have hnew : ∀ o : Obj, (w.alloc o).heap[w.heap.size]? = some o := fun o => by
    show (w.heap.push o)[w.heap.size]? = _
    simp
  have hB := (Below.refl w.heap.size w).alloc (Nat.le_refl _) (.cells (bs.map (Value.int .u8)).toArray e ((bs.map (Value.int .u8)).toArray.size, (bs.map (Value.int .u8)).toArray.size + 1))
  refine ⟨hB.fr [], fun i r h => by simp at h, fun i r h => by simp at h, fun i j r s h => by simp at h, fun b => b = w.heap.size, ⟨fun b hb => ?_, fun w' hw => key w' ((hw _ rfl).trans (hnew _))⟩, fun b hb => .inr (by omega), fun i r h => by simp at h⟩
  subst hb
  rcases Nat.lt_or_ge w.heap.size (w.alloc (.cells (bs.map (Value.int .u8)).toArray e ((bs.map (Value.int .u8)).toArray.size, (bs.map (Value.int .u8)).toArray.size + 1))).heap.size with h | h
  · exact h
  · have := hnew (.cells (bs.map (Value.int .u8)).toArray e ((bs.map (Value.int .u8)).toArray.size, (bs.map (Value.int .u8)).toArray.size + 1))
    rw [Array.getElem?_eq_none h] at this; cases this
section
variable {a b : Option Addr} {c1 c2 : Nat} {xs ys : List Int} {Q : List (List Int)} {w : World}
theorem roll_Same_ct (ha : SlR (IntC .u8) 1 w a xs) (hb : SlR (IntC .u8) 1 w b ys) (hx : Bytes xs) (hy : Bytes ys) :
    Calls Try.prog N_roll_Same #[.slice a xs.length c1, .slice b ys.length c2] w fun e w' => e = .returned (.bool (decide (xs = ys))) ∧ Below w.heap.size w w' := by
  apply F_roll_Same_ok
  unfold F_roll_Same
  refine convS_bytes (e := Ty_uint8) (by kernel_rfl) (by kernel_rfl) (by kernel_rfl) ha ?_
  refine convS_bytes (e := Ty_uint8) (by kernel_rfl) (by kernel_rfl) (by kernel_rfl) hb ?_
  refine ⟨?_, .refl _ _⟩
  rw [str_beq hx hy]
theorem roll_Same_eq (ha : SlR (IntC .u8) 1 w a xs) (hb : SlR (IntC .u8) 1 w b xs) :
    Calls Try.prog N_roll_Same #[.slice a xs.length c1, .slice b xs.length c2] w fun e w' => e = .returned (.bool true) ∧ Below w.heap.size w w' := by
  apply F_roll_Same_ok
  unfold F_roll_Same
  refine convS_bytes (e := Ty_uint8) (by kernel_rfl) (by kernel_rfl) (by kernel_rfl) ha ?_
  refine convS_bytes (e := Ty_uint8) (by kernel_rfl) (by kernel_rfl) (by kernel_rfl) hb ?_
  exact ⟨by rw [ba_refl], .refl _ _⟩
theorem roll_SameAll_ct (ha : QR w a Q) (hb : QR w b Q) (hl : Q.length ≤ 140737488355328) :
    Calls Try.prog N_roll_SameAll #[.slice a Q.length c1, .slice b Q.length c2] w fun e w' => e = .returned (.bool true) ∧ Below w.heap.size w w' := by
  apply F_roll_SameAll_ok
  unfold F_roll_SameAll
  have H := St.nil w
  refine bsplit_nd (fun c3 => absurd rfl c3) (fun c3 => ?_)
  refine ⟨fun i => ((Q.length - i).toNat, fun w1 => ∃ k : Nat, i = k ∧ k ≤ Q.length ∧ FreshR w w1 []), ⟨0, rfl, by omega, H⟩, ?_⟩
  clear H
  rintro _ i w1 ⟨k, rfl, hk, H1⟩
  refine bsplit_dec (fun c2 => ?_) (fun c2 => ?_)
  · have hlt : k < Q.length := by omega
    refine H1.drew ?_; clear H1; intro w2 H2
    refine ⟨(· < w2.heap.size), ?_⟩
    refine ixE (qr_below ha H2.below) k rfl hlt fun b1 x hx hb1 => ?_
    obtain rfl : Q[k] = x := by rw [List.getElem?_eq_getElem hlt] at hx; exact Option.some.inj hx
    obtain ⟨a1, cc1, h1, h2, _⟩ := hb1
    refine ⟨cell_lt h1.1, ?_⟩
    refine ⟨_, _, _, h1.1, ?_⟩
    refine ixE (qr_below hb H2.below) k rfl hlt fun b2 x hx hb2 => ?_
    obtain rfl : Q[k] = x := by rw [List.getElem?_eq_getElem hlt] at hx; exact Option.some.inj hx
    obtain ⟨a2, cc2, h3, h4, _⟩ := hb2
    refine ⟨cell_lt h3.1, ?_⟩
    refine ⟨_, _, _, h3.1, ?_⟩
    refine ⟨?_, ?_, trivial⟩
    · refine convS_bytes (e := Ty_uint8) (by kernel_rfl) (by kernel_rfl) (by kernel_rfl) h2 ?_
      refine ⟨KeepsB.refl _ _, ?_⟩
      refine convS_bytes (e := Ty_uint8) (by kernel_rfl) (by kernel_rfl) (by kernel_rfl) h4 ?_
      refine ⟨KeepsB.refl _ _, ?_⟩
      refine bsplit_n (fun c => ?_) (fun c => ?_)
      · rw [ba_refl] at c; cases c
      · refine kW_i64 (by omega) ?_
        exact ⟨⟨k + 1, by omega, by omega, H2⟩, by dsimp only; omega⟩
    · refine convS_bytes (e := Ty_uint8) (by kernel_rfl) (by kernel_rfl) (by kernel_rfl) h4 ?_
      refine ⟨KeepsB.refl _ _, ?_⟩
      refine convS_bytes (e := Ty_uint8) (by kernel_rfl) (by kernel_rfl) (by kernel_rfl) h2 ?_
      refine ⟨KeepsB.refl _ _, ?_⟩
      refine bsplit_n (fun c => ?_) (fun c => ?_)
      · rw [ba_refl] at c; cases c
      · refine kW_i64 (by omega) ?_
        exact ⟨⟨k + 1, by omega, by omega, H2⟩, by dsimp only; omega⟩
  · exact ⟨rfl, H1.below⟩
end
section
variable {x : Cu} {a b : Option Addr} {c c' : Nat} {w : World}
theorem law23_same_ct (ha : QR w a x.q) (hb : QR w b x.q) (hm : SmQ x.q) :
    Calls Try.prog N_law23_same #[aggCu x a c, aggCu x b c'] w fun e w' => e = .returned (.bool true) ∧ Below w.heap.size w w' := by
  apply F_law23_same_ok
  unfold F_law23_same
  have H := St.nil w
  refine H.alloc ?_; clear H; intro b0 w1 H1
  refine H1.alloc ?_; clear H1; intro b1 w2 H2
  simp only [List.cons_append, List.nil_append] at H2
  refine H2.ld (i := 0) rfl rfl ?_
  refine H2.ld (i := 1) rfl rfl ?_
  refine bsplit_dec (fun c2 => ?_) (fun c2 => absurd rfl c2)
  refine H2.ld (i := 0) rfl rfl ?_
  refine H2.ld (i := 1) rfl rfl ?_
  refine bsplit_dec (fun c1 => ?_) (fun c1 => absurd rfl c1)
  refine H2.ld (i := 0) rfl rfl ?_
  refine H2.ld (i := 1) rfl rfl ?_
  refine bsplit_dec (fun c => ?_) (fun c => absurd rfl c)
  refine H2.ldS (i := 0) rfl rfl ?_
  refine H2.ldS (i := 1) rfl rfl ?_
  refine (roll_SameAll_ct (qr_below ha H2.below) (qr_below hb H2.below) (by have := hm.1; omega)).mono ?_
  rintro _ w3 ⟨rfl, hb3⟩; have H3 := H2.pass hb3; clear H2
  refine ⟨_, rfl, ?_⟩
  exact ⟨rfl, H3.below⟩
theorem law23_light_ct (hQ : QR w a x.q) (hm : SmQ x.q) :
    Calls Try.prog N_law23_light #[aggCu x a c] w fun e w' => ∃ r : Bool, e = .returned (.bool r) ∧ Below w.heap.size w w' := by
  apply F_law23_light_ok
  unfold F_law23_light
  have hm1 := hm.1
  have H := St.nil w
  refine H.alloc ?_; clear H; intro b0 w1 H1
  refine ⟨fun n i => ((x.q.length - i).toNat, fun w2 => ∃ k : Nat, i = k ∧ k ≤ x.q.length ∧ FreshR w w2 [.blk b0 Ty_api_Cutter (encCu x a c)]), ⟨0, rfl, by omega, H1⟩, ?_⟩
  clear H1
  rintro _ n i w2 ⟨k, rfl, hk, H2⟩
  refine H2.ldS (i := 0) rfl rfl ?_
  refine bsplit_dec (fun c => ?_) (fun c => ?_)
  · have hlt : k < x.q.length := by omega
    refine kW_intro fun y1 _ => ?_
    refine H2.ldS (i := 0) rfl rfl ?_
    refine ixE (qr_below hQ H2.below) k rfl hlt fun b1 d hd hb1 => ?_
    obtain ⟨a1, c1', hb, _, _⟩ := hb1
    refine ⟨_, _, _, hb.1, ?_⟩
    refine kW_intro fun y2 _ => ?_
    refine kW_i64 (by omega) ?_
    exact ⟨⟨k + 1, by omega, by omega, H2⟩, by dsimp only; omega⟩
  · refine kLet_in ?_
    exact ⟨_, rfl, H2.below⟩
end
/-- what is reckoned of a sending side stays small -/
theorem sub_sm {x : Cu} {d : List Int} (h : SmQ x.q) (hd : d.length ≤ 140737488355328) : SmQ (subC x d).1.q := by
  unfold subC
  split
  · exact h
  · rename_i h1
    split
    · exact h
    · split
      · exact h
      · have hc : cuOk x := by simpa using h1
        have := hc.2.2.1
        refine ⟨by show (x.q ++ [d]).length ≤ _; simp; omega, fun e he => ?_⟩
        rcases List.mem_append.1 he with he | he
        · exact h.2 e he
        · obtain rfl : e = d := by simpa using he
          exact hd
theorem build_sm {x : Cu} {size : Int} (h : SmQ x.q) : SmQ (buildC x size).1.q := by
  unfold buildC
  split
  · exact h
  · split
    · exact h
    · cases hq : x.q with
      | nil => dsimp only; exact hq ▸ h
      | cons d l =>
        dsimp only
        split
        · exact h
        · unfold afterC
          rw [hq] at h
          split
          · exact ⟨by have := h.1; simp at this; show l.length ≤ _; omega, fun e he => h.2 e (by simp; exact .inr he)⟩
          · show SmQ x.q; rw [hq]; exact h
section
variable {x : Cu} {a : Option Addr} {c : Nat} {w : World} {d : List Int} {da : Option Addr} {dc : Nat} {size : Int} {L : List BL}
theorem law23_agree_ct (hL : L.map (·.d) = x.q) (hQ : QL L a w) (hm : SmQ x.q) (hxc : x.q.length ≤ c) (hd : SlR (IntC .u8) 1 w da d) (hdl : d.length ≤ 140737488355328) (hsz : -9223372036854775808 ≤ size ∧ size ≤ 9223372036854775807) :
    Calls Try.prog N_law23_agree #[aggCu x a c, .slice da d.length dc, .int .i64 size] w fun e w' => e = .returned (.bool true) ∧ Below w.heap.size w w' := by
  apply F_law23_agree_ok
  unfold F_law23_agree
  have hq' : ∀ {w}, QL L a w → QR w a x.q := fun h => by rw [← hL]; exact h.qr
  have H := ((St.startA w).hold (ql_held hQ)).hold (slr_held hd)
  refine H.alloc ?_; clear H; intro b w1 H1
  refine ⟨_, _, _, _, _, _, H1.cells (i := 0) rfl, ?_⟩
  refine (unack_Submit_ct (hq' H1.get.2.1) hm H1.get.1 hdl).mono ?_
  obtain ⟨s, hs⟩ : ∃ s, s = subC x d := ⟨_, rfl⟩
  have hsm : SmQ s.1.q := by rw [hs]; exact sub_sm hm hdl
  rw [← hs]
  rintro _ w2 ⟨a2, c2, rfl, K⟩; have H2 := H1.callF K; clear H1 K
  rw [List.append_nil] at H2
  refine ⟨_, _, _, _, _, _, _, rfl, ?_⟩
  refine H2.alloc ?_; clear H2; intro b1 w3 H3
  simp only [List.cons_append, List.nil_append] at H3
  refine H3.store (i := 1) rfl (by rfl) (by rfl) ?_; clear H3; intro w4 H4
  refine ⟨_, _, _, _, _, _, H4.cells (i := 0) rfl, ?_⟩
  obtain ⟨A5, hA5, hc5⟩ := H4.callH
  refine (ref23_Submit_ct hL (hA5.weaken fun _ h => h.2.2.1) hm hxc H4.get.2.1 hdl).mono ?_
  rw [← hs]
  rintro _ w5 ⟨a5, c5, L5, hL5, rfl, _, K⟩; have H5 := hc5 K; clear H4 K hA5 hc5
  refine ⟨_, _, _, _, _, _, _, rfl, ?_⟩
  refine H5.alloc ?_; clear H5; intro b2 w6 H6
  simp only [List.set_cons_succ, List.set_cons_zero, List.cons_append, List.nil_append] at H6
  refine H6.store (i := 2) rfl (by rfl) (by rfl) ?_; clear H6; intro w7 H7
  refine ⟨_, _, _, _, _, _, H7.cells (i := 0) rfl, ?_⟩
  refine (unack_Build_ct (hq' H7.get.2.2.2.1) hm hsz).mono ?_
  obtain ⟨r, hr⟩ : ∃ r, r = buildC x size := ⟨_, rfl⟩
  have hrm : SmQ r.1.q := by rw [hr]; exact build_sm hm
  rw [← hr]
  rintro _ w8 ⟨a8, c8, ba8, bc8, rfl, _, K⟩; have H8 := H7.callF K; clear H7 K
  rw [List.append_nil] at H8
  refine ⟨_, _, _, _, _, _, _, _, _, _, rfl, ?_⟩
  refine H8.alloc ?_; clear H8; intro b3 w9 H9
  simp only [List.set_cons_succ, List.set_cons_zero, List.cons_append, List.nil_append] at H9
  refine H9.store (i := 3) rfl (by rfl) (by rfl) ?_; clear H9; intro w10 H10
  refine ⟨_, _, _, _, _, _, H10.cells (i := 0) rfl, ?_⟩
  obtain ⟨A11, hA11, hc11⟩ := H10.callH
  refine (ref23_Build_ct hL (hA11.weaken fun _ h => h.2.2.2.2.1) hm hxc hsz).mono ?_
  rw [← hr]
  rintro _ w11 ⟨a11, c11, L11, ba11, bc11, hL11, rfl, _, _, K⟩; have H11 := hc11 K; clear H10 K hA11 hc11
  refine ⟨_, _, _, _, _, _, _, _, _, _, rfl, ?_⟩
  refine H11.alloc ?_; clear H11; intro b4 w12 H12
  simp only [List.set_cons_succ, List.set_cons_zero, List.cons_append, List.nil_append] at H12
  refine H12.store (i := 4) rfl (by rfl) (by rfl) ?_; clear H12; intro w13 H13
  refine H13.drew ?_; clear H13; intro w14 H14
  refine ⟨(· < w14.heap.size), ?_⟩
  obtain ⟨⟨g1, g2⟩, ⟨g3, g4⟩, g5, g6, g7, g8, -⟩ := H14.get
  have q5 : ∀ {w'}, Below w14.heap.size w14 w' → QR w' a5 s.1.q := fun h => by rw [← hL5]; exact qr_below g5.qr h
  have q11 : ∀ {w'}, Below w14.heap.size w14 w' → QR w' a11 r.1.q := fun h => by rw [← hL11]; exact qr_below g2.qr h
  have q0 : ∀ {w'}, Below w14.heap.size w14 w' → QR w' a x.q := fun h => by rw [← hL]; exact qr_below g8.qr h
  have hrf := Below.refl w14.heap.size w14
  refine bsplit_dec (fun c5 => ?_) (fun c5 => absurd rfl c5)
  refine bsplit_dec (fun c4 => ?_) (fun c4 => absurd rfl c4)
  refine ⟨_, _, _, _, _, _, H14.cells (i := 1) rfl, ?_⟩
  refine ⟨_, _, _, _, _, _, H14.cells (i := 2) rfl, ?_⟩
  refine (law23_same_ct (x := s.1) g6 (q5 hrf) hsm).mono ?_
  rintro _ w15 ⟨rfl, hb15⟩; have H15 := H14.pass hb15
  refine ⟨_, rfl, ?_⟩
  refine ⟨hb15.keeps, ?_⟩
  refine bsplit_intro (fun c3 => ?_) (fun c3 => by cases c3)
  refine ⟨H14.lt (i := 3) rfl rfl, ?_⟩
  refine ⟨_, _, _, _, _, _, H14.cells (i := 3) rfl, ?_⟩
  refine ⟨H14.lt (i := 4) rfl rfl, ?_⟩
  refine ⟨_, _, _, _, _, _, H14.cells (i := 4) rfl, ?_⟩
  refine (law23_same_ct (x := r.1) (qr_below g3 hb15) (q11 hb15) hrm).mono ?_
  rintro _ w16 ⟨rfl, hb16⟩; have H16 := H15.pass hb16
  refine ⟨_, rfl, ?_⟩
  replace hb16 := below_step hb15 (Nat.le_refl _) hb16
  refine ⟨hb16.keeps, ?_⟩
  refine bsplit_intro (fun c2 => ?_) (fun c2 => by cases c2)
  refine (roll_Same_eq (g4.below hb16) (g1.below hb16)).mono ?_
  rintro _ w17 ⟨rfl, hb17⟩; have H17 := H16.pass hb17
  refine ⟨_, rfl, ?_⟩
  replace hb17 := below_step hb16 (Nat.le_refl _) hb17
  refine ⟨hb17.keeps, ?_⟩
  refine bsplit_intro (fun c1 => ?_) (fun c1 => by cases c1)
  refine ⟨H14.lt (i := 0) rfl rfl, ?_⟩
  refine ⟨_, _, _, _, _, _, H14.cells (i := 0) rfl, ?_⟩
  refine ⟨H14.lt (i := 0) rfl rfl, ?_⟩
  refine ⟨_, _, _, _, _, _, H14.cells (i := 0) rfl, ?_⟩
  refine (unack_Valid_ct (q0 hb17) hm).mono ?_
  rintro _ w18 ⟨rfl, hb18⟩; have H18 := H17.pass hb18
  refine ⟨_, rfl, ?_⟩
  replace hb18 := below_step hb17 (Nat.le_refl _) hb18
  refine ⟨hb18.keeps, ?_⟩
  refine (ref23_Valid_ct (q0 hb18) hm).mono ?_
  rintro _ w19 ⟨rfl, hb19⟩; have H19 := H18.pass hb19
  refine ⟨_, rfl, ?_⟩
  replace hb19 := below_step hb18 (Nat.le_refl _) hb19
  refine ⟨hb19.keeps, ?_⟩
  refine bsplit_intro (fun c => ?_) (fun c => by rw [beq_self_eq_true] at c; cases c)
  refine ⟨H14.lt (i := 0) rfl rfl, ?_⟩
  refine ⟨_, _, _, _, _, _, H14.cells (i := 0) rfl, ?_⟩
  refine ⟨H14.lt (i := 0) rfl rfl, ?_⟩
  refine ⟨_, _, _, _, _, _, H14.cells (i := 0) rfl, ?_⟩
  refine (unack_Waiting_ct (q0 hb19) hm).mono ?_
  rintro _ w20 ⟨rfl, hb20⟩; have H20 := H19.pass hb20
  refine ⟨_, rfl, ?_⟩
  replace hb20 := below_step hb19 (Nat.le_refl _) hb20
  refine ⟨hb20.keeps, ?_⟩
  refine (ref23_Waiting_ct (q0 hb20) hm).mono ?_
  rintro _ w21 ⟨rfl, hb21⟩; have H21 := H20.pass hb21
  refine ⟨_, rfl, ?_⟩
  refine kLet_in ?_
  exact ⟨by rw [decide_eq_true rfl], H21.below⟩
end
end Go.Proofs.Ytlgolgpellbnbaa
/- CHAPTER 23: the sanity check. -/
namespace Go.Sx
def digits : List Int := [48, 49, 50, 51, 52, 53, 54, 55, 56, 57]
/-- the sanity check's sides, step by step, and how many bytes have come -/
def awS : Nat → Cu × Rc × Int
  | 0 => ((subC (newU 5 3).1 digits).1, (newU 5 3).2.1, 0)
  | k + 1 => ((buildC (awS k).1 7).1, plainR (recS (awS k).2.1 (buildC (awS k).1 7).2.1).1, (awS k).2.2 + (recS (awS k).2.1 (buildC (awS k).1 7).2.1).2.1.length)
theorem aw_facts : ∀ k, k < 3 → (buildC (awS k).1 7).2.2 = 0 ∧ (recS (awS k).2.1 (buildC (awS k).1 7).2.1).2.2 = 0 ∧ (∀ x ∈ (buildC (awS k).1 7).2.1, 0 ≤ x ∧ x < 256) ∧ (buildC (awS k).1 7).2.1.length ≤ 10 ∧ (recS (awS k).2.1 (buildC (awS k).1 7).2.1).2.1.length ≤ 100 ∧ (0 ≤ (awS k).2.2 ∧ (awS k).2.2 ≤ 100) := by decide +kernel
theorem aw_end : (newU 5 3).2.2 = 0 ∧ (newU 5 3).2.1.parts = [] ∧ (subC (newU 5 3).1 digits).2 = 0 ∧ (awS 3).2.2 = 10 ∧ waitC (awS 3).1 = 0 ∧ (awS 3).1.next = 1 ∧ cuOk (awS 3).1 := by decide +kernel
end Go.Sx
namespace Go.Proofs.Ytlgolgpellbnbaa
open Go.Sx Go.RowKit
set_option maxRecDepth 100000
theorem aw_sm : ∀ k, SmQ (awS k).1.q
  | 0 => sub_sm (by refine ⟨?_, ?_⟩ <;> (unfold newU; split <;> simp [Cu.zero])) (by decide)
  | k + 1 => build_sm (aw_sm k)
theorem aw_gp : ∀ k, k ≤ 3 → GP (awS k).2.1.parts
  | 0, _ => by
    show GP (newU 5 3).2.1.parts
    rw [aw_end.2.1]; exact gp_nil
  | k + 1, h => (rec_gp (aw_gp k (by omega)) (bytes_mem.2 (aw_facts k (by omega)).2.2.1)).1
theorem law23_awake_ct {w : World} :
    Calls Try.prog N_law23_awake #[] w fun e w' => e = .returned (.bool true) ∧ Below w.heap.size w w' := by
  obtain ⟨z1, z2, z3, z4, z5, z6, z7⟩ := aw_end
  apply F_law23_awake_ok
  unfold F_law23_awake
  have H := St.nil w
  refine (unack_New_ct (n := 5) (wait := 3)).mono ?_
  obtain ⟨p, hp⟩ : ∃ p, p = newU 5 3 := ⟨_, rfl⟩
  rw [← hp] at z1 z2 z3 ⊢
  have hpq : p.1.q = [] := by rw [hp]; unfold newU; split <;> rfl
  rintro _ w1 ⟨rfl, hb1⟩; have H1 := H.pass hb1; clear H
  refine ⟨_, _, _, _, _, _, _, _, _, _, _, _, _, _, _, _, _, _, _, _, _, _, _, rfl, ?_⟩
  refine H1.alloc ?_; clear H1; intro b w2 H2
  refine H2.alloc ?_; clear H2; intro b1 w3 H3
  simp only [List.cons_append, List.nil_append] at H3
  refine H3.store (i := 0) rfl (by rfl) (by rfl) ?_; clear H3; intro w4 H4
  refine H4.store (i := 1) rfl (by rfl) (by rfl) ?_; clear H4; intro w5 H5
  replace H5 : FreshR w w5 [.blk b Ty_api_Cutter (encCu p.1 none 0), .blk b1 Ty_api_Receiver (encRc p.2.1 none 0)] := H5
  refine ⟨_, _, _, _, _, _, H5.cells (i := 0) rfl, ?_⟩
  refine convBC (e := Ty_uint8) (by kernel_rfl) (by kernel_rfl) digits rfl (fun b2 w7 K => ?_) rfl
  have H7 := H5.callF K; clear H5 K
  rw [List.append_nil] at H7
  refine (unack_Submit_ct (x := p.1) (a := none) (c := 0) (by rw [hpq]; exact .nil) ⟨by rw [hpq]; simp, by rw [hpq]; simp⟩ H7.get.1 (by decide)).mono ?_
  rintro _ w8 ⟨a8, c8, rfl, K⟩; have H8 := H7.callF K; clear H7 K
  rw [List.append_nil] at H8
  refine ⟨_, _, _, _, _, _, _, rfl, ?_⟩
  refine H8.store (i := 0) rfl (by rfl) (by rfl) ?_; clear H8; intro w9 H9
  have e0 : (awS 0).1 = (subC p.1 digits).1 := by rw [hp]; rfl
  have e1 : (awS 0).2.1 = p.2.1 := by rw [hp]; rfl
  refine ⟨fun n i => ((3 - i).toNat, fun w10 => ∃ (k : Nat) (s : Cu × Rc × Int) (a : Option Addr) (c : Nat) (ra : Option Addr) (rc : Nat), i = k ∧ k ≤ 3 ∧ s = awS k ∧ n = s.2.2 ∧ St (fun _ => False) [] w w10 [.blk b Ty_api_Cutter (encCu s.1 a c), .blk b1 Ty_api_Receiver (encRc s.2.1 ra rc)] (fun w => QR w a s.1.q ∧ PaR w ra s.2.1.parts)), ⟨0, awS 0, a8, c8, none, 0, rfl, by omega, rfl, rfl, ?_⟩, ?_⟩
  · rw [e0, e1]
    exact H9.imp fun w h => ⟨h.1, by rw [z2]; exact .nil⟩
  clear H9
  rintro _ n i w10 ⟨k, s, a, c, ra, rc, rfl, hk, hs, rfl, H10⟩
  have hsm : SmQ s.1.q := by rw [hs]; exact aw_sm k
  have hgp : GP s.2.1.parts := by rw [hs]; exact aw_gp k hk
  refine bsplit_dec (fun c7 => ?_) (fun c7 => ?_)
  · have hf := aw_facts k (by omega)
    have hnx : awS (k + 1) = ((buildC (awS k).1 7).1, plainR (recS (awS k).2.1 (buildC (awS k).1 7).2.1).1, (awS k).2.2 + (recS (awS k).2.1 (buildC (awS k).1 7).2.1).2.1.length) := rfl
    rw [← hs] at hf hnx
    obtain ⟨B, hB⟩ : ∃ B, B = buildC s.1 7 := ⟨_, rfl⟩
    obtain ⟨R, hR⟩ : ∃ R, R = recS s.2.1 B.2.1 := ⟨_, rfl⟩
    rw [← hB, ← hR] at hf hnx
    obtain ⟨f1, f2, f3, f4, f5, f6⟩ := hf
    refine ⟨_, _, _, _, _, _, H10.cells (i := 0) rfl, ?_⟩
    refine (unack_Build_ct H10.get.1 hsm (by omega)).mono ?_
    rw [← hB]
    rintro _ w11 ⟨a11, c11, ba11, bc11, rfl, hbc, K⟩; have H11 := H10.callF K; clear H10 K
    rw [List.append_nil] at H11
    refine ⟨_, _, _, _, _, _, _, _, _, _, rfl, ?_⟩
    refine H11.alloc ?_; clear H11; intro b3 w12 H12
    simp only [List.cons_append, List.nil_append] at H12
    refine H12.store (i := 2) rfl (by rfl) (by rfl) ?_; clear H12; intro w13 H13
    refine ⟨_, _, _, _, _, _, _, _, _, _, _, _, _, _, _, _, H13.cells (i := 1) rfl, ?_⟩
    refine (unack_Receive_ct H13.get.2.2 hgp.sm H13.get.1.2 (bytes_mem.2 f3) (by omega) hbc).mono ?_
    rw [← hR]
    rintro _ w14 ⟨a14, c14, ba14, bc14, rfl, _, K⟩; have H14 := H13.callF K; clear H13 K
    rw [List.append_nil] at H14
    refine ⟨_, _, _, _, _, _, _, _, _, _, _, _, _, _, _, _, _, _, _, _, rfl, ?_⟩
    refine H14.alloc ?_; clear H14; intro b4 w15 H15
    simp only [List.set_cons_succ, List.set_cons_zero, List.cons_append, List.nil_append] at H15
    refine H15.store (i := 3) rfl (by rfl) (by rfl) ?_; clear H15; intro w16 H16
    refine bsplit_nd (fun c1 => absurd f1 c1) (fun c1 => ?_)
    refine bsplit_nd (fun c0 => absurd f2 c0) (fun c0 => ?_)
    refine H16.drew ?_; clear H16; intro w17 H17
    refine ⟨fun z => z = b4, ?_⟩
    refine ⟨_, _, _, _, _, _, H17.cells (i := 2) rfl, ?_⟩
    refine ⟨rfl, ?_⟩
    refine ⟨_, _, _, _, _, _, _, _, _, _, _, _, _, _, _, _, H17.cells (i := 3) rfl, ?_⟩
    refine kW_i64 (by omega) ?_
    refine H17.store (i := 0) rfl (by rfl) (by rfl) ?_; intro w18 H18
    refine ⟨keepB1 (H17.ok 3 _ rfl) (H18.ok 3 _ rfl), ?_⟩
    clear H17
    refine H18.store (i := 1) rfl (by rfl) (by rfl) ?_; clear H18; intro w19 H19
    refine kW_i64 (by omega) ?_
    refine ⟨⟨k + 1, awS (k + 1), a11, c11, a14, c14, by omega, by omega, rfl, by rw [hnx], ?_⟩, by dsimp only; omega⟩
    rw [hnx]
    exact (St.left (X := [_, _]) H19).imp fun w h => ⟨h.2.1.1, h.1.1⟩
  · obtain rfl : k = 3 := by omega
    rw [← hs] at z4 z5 z6 z7
    refine bsplit_dec (fun c6 => ?_) (fun c6 => absurd z1 c6)
    refine bsplit_dec (fun c5 => ?_) (fun c5 => absurd z3 c5)
    refine bsplit_dec (fun c4 => ?_) (fun c4 => absurd z4 c4)
    refine ⟨_, _, _, _, _, _, H10.cells (i := 0) rfl, ?_⟩
    refine (unack_Waiting_ct H10.get.1 hsm).mono ?_
    rintro _ w20 ⟨rfl, hb20⟩; have H20 := H10.pass hb20; clear H10
    refine ⟨_, rfl, ?_⟩
    refine bsplit_dec (fun c3 => ?_) (fun c3 => absurd z5 c3)
    refine H20.ld (i := 0) rfl rfl ?_
    refine bsplit_dec (fun c2 => ?_) (fun c2 => absurd z6 c2)
    refine ⟨_, _, _, _, _, _, H20.cells (i := 0) rfl, ?_⟩
    refine (unack_Valid_ct H20.get.1 hsm).mono ?_
    rintro _ w21 ⟨rfl, hb21⟩; have H21 := H20.pass hb21; clear H20
    refine ⟨_, rfl, ?_⟩
    exact ⟨by rw [decide_eq_true z7], H21.below⟩
theorem awakeTo {w w' : World} {R : List Res} {A : Nat → Prop} {P : World → Prop} (H : St A [] w w' R P) : Calls Try.prog N_law23_awake #[] w' fun e w'' => ∃ r : Bool, e = .returned (.bool r) ∧ (Ending.returned (.bool r) = .returned (.bool true) ∧ Below w.heap.size w w'') := by
  refine law23_awake_ct.mono ?_
  rintro _ w2 ⟨rfl, hb2⟩
  exact ⟨_, rfl, rfl, (H.pass hb2).below⟩
end Go.Proofs.Ytlgolgpellbnbaa
/- The dice of the laws: what a throw gives. -/
namespace Go.Proofs.Ytlgolgpellbnbaa
open Go.Sx Go.RowKit

def modI (n m : Int) : Int := if m < 1 then 0 else n % m
theorem modI_range (n m : Int) (h : 1 ≤ m) : 0 ≤ modI n m ∧ modI n m < m := by
  unfold modI
  rw [if_neg (by omega)]
  exact ⟨Int.emod_nonneg _ (by omega), Int.emod_lt_of_pos _ (by omega)⟩
section
variable {g : Nat} {a : Option Addr} {c : Nat} {ts : List Int} {p : Nat} {w : World} {A : Nat → Prop} {P : World → Prop}
end
section
variable {A0 : Nat → Prop} {M : List Nat} {w0 w : World} {R : List Res} {P : World → Prop} {i g : Nat} {a : Option Addr} {c : Nat} {ts : List Int} {p : Nat}
end

section
variable {g : Nat} {a : Option Addr} {c : Nat} {ts : List Int} {p : Nat} {w : World} {A : Nat → Prop} {P : World → Prop}
end
end Go.Proofs.Ytlgolgpellbnbaa
/- Chapter 21, plain: what a receiver keeps: a partial that takes a piece. -/
namespace Go.Sx
theorem end_come {x : Pa} (h : normB (-1) x.come = true) (e : (x.data.length : Int) = endT x.come) : ∀ r ∈ x.come, r.t ≤ x.data.length := by
  intro r hr
  have := (norm_end (q := 0) h).1 r hr
  unfold endT at e; omega
theorem getD_at2 {d : List Int} {k : Nat} (h : k < d.length) : d.getD k 0 = d[k] := by simp [List.getD, List.getElem?_eq_getElem h]
/-- the bytes of the gaps are 0 -/
theorem zero_iff {x : Pa} (h : normB (-1) x.come = true) (e : (x.data.length : Int) = endT x.come) :
    zeroB x = true ↔ ∀ k : Nat, k < x.data.length → covB k x.come = false → x.data.getD k 0 = 0 := by
  have ht := end_come h e
  have hc := fun k : Int => gaps_cov x.sn k x.data.length x.come 0 (by simpa using h) ht
  have hn := gaps_norm x.sn x.data.length x.come (-1) 0 (by simpa using h) (by omega)
  have hg := norm_lt _ _ hn
  have hle : ∀ g ∈ gapsS x.sn x.come 0 x.data.length, g.t ≤ x.data.length := gaps_le x.sn x.data.length x.come 0 fun r hr => by
    have := norm_lt _ _ h r hr; have := ht r hr; omega
  unfold zeroB
  rw [List.all_eq_true]
  constructor
  · intro hz k hk hck
    have h1 := hc k
    rw [hck] at h1
    have h2 : covB (k : Int) (gapsS x.sn x.come 0 x.data.length) = true := by rw [h1]; simp; omega
    obtain ⟨g, hg1, hg2, hg3⟩ := cov_iff.1 h2
    have h3 := hz g hg1
    rw [List.all_eq_true] at h3
    have h4 := hg g hg1
    have h5 := hle g hg1
    have hi : k - g.f.toNat < ((x.data.drop g.f.toNat).take (g.t.toNat - g.f.toNat)).length := by simp only [List.length_take, List.length_drop]; omega
    have h6 := h3 _ (List.getElem_mem hi)
    simp only [List.getElem_take, List.getElem_drop, decide_eq_true_eq] at h6
    rw [getD_at2 hk]
    rw [← h6]
    congr 1; omega
  · intro hz g hg1
    rw [List.all_eq_true]
    intro c hcm
    obtain ⟨j, hj, rfl⟩ := List.getElem_of_mem hcm
    simp only [List.getElem_take, List.getElem_drop, decide_eq_true_eq]
    simp only [List.length_take, List.length_drop] at hj
    have h4 := hg g hg1
    have h5 := hle g hg1
    have hk : g.f.toNat + j < x.data.length := by omega
    have h1 := hc ((g.f.toNat + j : Nat) : Int)
    have h2 : covB ((g.f.toNat + j : Nat) : Int) (gapsS x.sn x.come 0 x.data.length) = true := cov_iff.2 ⟨g, hg1, by omega, by omega⟩
    rw [h2] at h1
    have h3 : covB ((g.f.toNat + j : Nat) : Int) x.come = false := by
      cases hb : covB ((g.f.toNat + j : Nat) : Int) x.come with
      | false => rfl
      | true => rw [hb] at h1; simp at h1
    have := hz _ hk h3
    rwa [getD_at2 hk] at this
theorem contra_new (n : Int) (p : Pc) (h : 1 ≤ p.en) : contraB (newPa n) p = false := by
  unfold contraB
  split
  · rw [decide_eq_false_iff_not]
    rintro (⟨h1, _⟩ | h1)
    · exact h1 rfl
    · simp only [newPa, endT, lastT] at h1; omega
  · rw [decide_eq_false_iff_not]
    rintro ⟨h1, _⟩
    exact h1 rfl
/-- what is known of a number that is not done, and whether it can take a piece -/
def Open (x : Pa) : Prop := x.done = false ∧ (x.len = -1 ∨ (1 ≤ x.len ∧ x.len ≤ 2054 ∧ (x.data.length : Int) ≤ x.len)) ∧ normB (-1) x.come = true ∧ (x.data.length : Int) = endT x.come ∧ x.data.length ≤ 2054 ∧ ∀ k : Nat, k < x.data.length → covB k x.come = false → x.data.getD k 0 = 0
theorem open_new (n : Int) : Open (newPa n) := ⟨rfl, .inl rfl, rfl, rfl, Nat.zero_le _, fun k h => by simp [newPa] at h⟩
theorem open_of {x : Pa} (hd : x.done = false) (h : paB x = true) : Open x := by
  rw [paB, if_neg (by rw [hd]; decide), Bool.and_eq_true, decide_eq_true_iff] at h
  obtain ⟨⟨h1, h2, h3, h4, h5, h6, h7⟩, hz⟩ := h
  exact ⟨hd, h1, h3, h5, h6, (zero_iff h3 h5).1 hz⟩
theorem merge_open {x : Pa} {p : Pc} (h : Open x) (hp : (0 ≤ p.off ∧ p.off ≤ 2054) ∧ 1 ≤ p.data.length ∧ p.off + p.data.length ≤ 2054) (hc : contraB x p = false) :
    Open (mergeS x p) ∧ (mergeS x p).come ≠ [] ∧ ∀ r ∈ (mergeS x p).come, r.sn = p.sn := by
  obtain ⟨h1, h2, h3, h4, h5, h6⟩ := h
  obtain ⟨⟨p1, p2⟩, p3, p4⟩ := hp
  have hen : p.en = p.off + p.data.length := rfl
  have hlt : p.off < p.en := by omega
  have hl : (mergeS x p).data.length = max x.data.length (p.off.toNat + p.data.length) := layD_len _ _ _
  have hcome : (mergeS x p).come = unionS p.sn x.come p.off p.en := rfl
  have hnorm : normB (-1) (mergeS x p).come = true := union_norm p.sn x.come (-1) p.off p.en h3 (by omega) hlt
  have hend : endT (mergeS x p).come = max (endT x.come) p.en := end_union h3 p1 hlt
  have hcov : ∀ k : Int, covB k (mergeS x p).come = (decide (p.off ≤ k ∧ k < p.en) || covB k x.come) := fun k => union_cov p.sn k x.come p.off p.en hlt fun r hr => (norm_lt _ _ h3 r hr).2
  refine ⟨⟨h1, ?_, hnorm, ?_, ?_, ?_⟩, ?_, union_sn p.sn x.come p.off p.en⟩
  · have hlen : (mergeS x p).len = if ends p.part = true then p.en else x.len := rfl
    rw [hlen]
    unfold contraB at hc
    by_cases he : ends p.part = true
    · rw [if_pos he] at hc ⊢
      rw [decide_eq_false_iff_not] at hc
      right
      have : ¬ p.en < endT x.come := fun hh => hc (.inr hh)
      omega
    · rw [if_neg he] at hc ⊢
      rw [decide_eq_false_iff_not] at hc
      rcases h2 with h2 | ⟨g1, g2, g3⟩
      · exact .inl h2
      · right
        have : ¬ x.len ≤ p.en := fun hh => hc ⟨by omega, hh⟩
        omega
  · rw [hend, hl]; omega
  · rw [hl]; omega
  · intro k hk hck
    rw [hcov, Bool.or_eq_false_iff, decide_eq_false_iff_not] at hck
    have hd : (mergeS x p).data.getD k 0 = _ := layD_get x.data p.off.toNat p.data k
    rw [hd, if_neg (by omega)]
    by_cases hkd : k < x.data.length
    · exact h6 k hkd hck.2
    · simp [List.getD, List.getElem?_eq_none (by omega : x.data.length ≤ k)]
  · intro e
    have := hcov p.off
    rw [e] at this
    simp [covB, hlt] at this
/-- a partial behind a piece is valid -/
theorem merge_pa {x : Pa} {p : Pc} (h : Open x) (hs : x.sn = p.sn) (hp : (0 ≤ p.off ∧ p.off ≤ 2054) ∧ 1 ≤ p.data.length ∧ p.off + p.data.length ≤ 2054) (hc : contraB x p = false) (hn : compB (mergeS x p) = false) : paB (mergeS x p) = true := by
  obtain ⟨⟨h1, h2, h3, h4, h5, h6⟩, h7, h8⟩ := merge_open h hp hc
  rw [paB, if_neg (by rw [h1]; decide), Bool.and_eq_true, decide_eq_true_iff]
  refine ⟨⟨h2, h7, h3, fun r hr => ?_, h4, h5, hn⟩, (zero_iff h3 h4).2 h6⟩
  rw [h8 r hr]; exact hs.symm
end Go.Sx
/- Chapter 21, plain: a valid receiver stays valid. -/
namespace Go.Sx
open Go.Proofs.Ytlgolgpellbnbaa
/-- what is valid of a receiver, but for the greatest number that is asked, the first partial and the timer -/
structure Core (s : Rc) : Prop where
  lk : lkOk s.lk
  f : snOk s.lk.bits s.first
  n : snOk s.lk.bits s.next
  u : snOk s.lk.bits s.upto
  half : s.place s.next ≤ 2 ^ (s.lk.bits - 1).toNat
  q : 0 ≤ s.quiet ∧ s.quiet ≤ s.lk.quiet
  all : ∀ x ∈ s.parts, paB x = true ∧ snOk s.lk.bits x.sn ∧ s.place x.sn < s.place s.next
  asc : s.parts.Pairwise fun x y => s.place x.sn < s.place y.sn
  last : ((s.parts.getLast?).map fun x => s.place x.sn).getD (-1) = s.place s.next - 1
def NoFirst (s : Rc) : Prop := ∀ x ∈ s.parts, ¬ (x.done = true ∧ x.sn = s.first)
theorem paFrom_iff {s : Rc} : ∀ {L : List Pa} {last : Int}, paFrom s last L = true ↔ (∀ x ∈ L, paB x = true ∧ snOk s.lk.bits x.sn ∧ last < s.place x.sn ∧ s.place x.sn < s.place s.next ∧ ¬ (x.done = true ∧ x.sn = s.first)) ∧ (L.Pairwise fun x y => s.place x.sn < s.place y.sn) ∧ ((L.getLast?).map fun x => s.place x.sn).getD last = s.place s.next - 1
  | [], last => by simp [paFrom]
  | p :: l, last => by
    have ih := paFrom_iff (s := s) (L := l) (last := s.place p.sn)
    have hl : (((p :: l).getLast?).map fun x => s.place x.sn).getD last = ((l.getLast?).map fun x => s.place x.sn).getD (s.place p.sn) := by
      rw [List.getLast?_cons]
      cases l.getLast? <;> rfl
    rw [hl, List.pairwise_cons]
    simp only [paFrom, Bool.and_eq_true, ih, paAt, decide_eq_true_eq, List.mem_cons, forall_eq_or_imp]
    have hd : (!p.done || !decide (p.sn = s.first)) = true ↔ ¬ (p.done = true ∧ p.sn = s.first) := by
      cases p.done <;> simp
    rw [hd]
    constructor
    · rintro ⟨⟨⟨⟨h1, h2, h3⟩, h4⟩, h5⟩, h6, h7, h8⟩
      exact ⟨⟨⟨h5, h1, h2, h3, h4⟩, fun x hx => ⟨(h6 x hx).1, (h6 x hx).2.1, by have := (h6 x hx).2.2.1; omega, (h6 x hx).2.2.2⟩⟩, ⟨fun x hx => (h6 x hx).2.2.1, h7⟩, h8⟩
    · rintro ⟨⟨⟨h5, h1, h2, h3, h4⟩, h6⟩, ⟨h9, h7⟩, h8⟩
      exact ⟨⟨⟨⟨h1, h2, h3⟩, h4⟩, h5⟩, fun x hx => ⟨(h6 x hx).1, (h6 x hx).2.1, h9 x hx, (h6 x hx).2.2.2⟩, h7, h8⟩
theorem place_ge (s : Rc) (n : Int) : 0 ≤ s.place n := (way_range _ _ _).1
theorem ok_iff {s : Rc} : s.okB = true ↔ Core s ∧ s.place s.upto ≤ s.place s.next ∧ NoFirst s ∧ markB s = true := by
  unfold Rc.okB headB
  simp only [Bool.and_eq_true, decide_eq_true_eq, paFrom_iff]
  constructor
  · rintro ⟨⟨⟨h1, h2, h3, h4, h5, h6, h7, h8⟩, h9, h10, h11⟩, h12⟩
    exact ⟨⟨h1, h2, h3, h4, h5, ⟨h7, h8⟩, fun x hx => ⟨(h9 x hx).1, (h9 x hx).2.1, (h9 x hx).2.2.2.1⟩, h10, h11⟩, h6, fun x hx => (h9 x hx).2.2.2.2, h12⟩
  · rintro ⟨⟨h1, h2, h3, h4, h5, ⟨h7, h8⟩, h9, h10, h11⟩, h6, h13, h12⟩
    exact ⟨⟨⟨h1, h2, h3, h4, h5, h6, h7, h8⟩, fun x hx => ⟨(h9 x hx).1, (h9 x hx).2.1, by have := place_ge s x.sn; omega, (h9 x hx).2.2, h13 x hx⟩, h10, h11⟩, h12⟩
/-- the timer, but for its place -/
def MarkW (s : Rc) : Prop := (s.mark = -1 → s.left = 0) ∧ (s.mark ≠ -1 → snOk s.lk.bits s.mark ∧ 1 ≤ s.left ∧ s.left ≤ s.lk.wait)
theorem mark_w {s : Rc} (h : markB s = true) : MarkW s := by
  rcases mark_iff.1 h with ⟨h1, h2⟩ | ⟨h1, h2, h3, h4, h5, h6⟩
  · exact ⟨fun _ => h2, fun hh => absurd h1 hh⟩
  · exact ⟨fun hh => absurd hh h1, fun _ => ⟨h2, h5, h6⟩⟩
theorem place_self (s : Rc) : s.place s.first = 0 := by unfold Rc.place way; rw [Int.sub_self, Int.zero_emod]
theorem Core.same {s t : Rc} (h : Core s) (h1 : t.lk = s.lk) (h2 : t.first = s.first) (h3 : t.next = s.next) (h4 : snOk s.lk.bits t.upto) (h5 : 0 ≤ t.quiet ∧ t.quiet ≤ s.lk.quiet) (h6 : t.parts = s.parts) : Core t := by
  have hp : ∀ n, t.place n = s.place n := fun n => by unfold Rc.place; rw [h1, h2]
  refine ⟨by rw [h1]; exact h.lk, by rw [h1, h2]; exact h.f, by rw [h1, h3]; exact h.n, by rw [h1]; exact h4, by rw [hp, h1, h3]; exact h.half, by rw [h1]; exact h5, ?_, ?_, ?_⟩
  · intro x hx; rw [h6] at hx; rw [h1, hp, hp, h3]; exact h.all x hx
  · rw [h6]; exact h.asc.imp fun {a b} hab => by rw [hp, hp]; exact hab
  · rw [h6, hp, h3]
    have : (fun x : Pa => t.place x.sn) = fun x => s.place x.sn := funext fun x => hp x.sn
    rw [this]; exact h.last
/-- start makes the timer right -/
theorem start_ok {s : Rc} (h : Core s) (hu : s.place s.upto ≤ s.place s.next) (hf : NoFirst s) (hm : MarkW s) : (startR s).okB = true := by
  obtain ⟨e1, e2, e3, e4, e5, e6, e7⟩ := startR_same s
  have hp : ∀ n, (startR s).place n = s.place n := fun n => by unfold Rc.place; rw [e2, e3]
  refine ok_iff.2 ⟨h.same e2 e3 e4 (by rw [e5]; exact h.u) (by rw [e6]; exact h.q) e1, by rw [hp, hp, e5, e4]; exact hu, fun x hx => by rw [e1] at hx; rw [e3]; exact hf x hx, mark_iff.2 ?_⟩
  obtain ⟨m1, m2⟩ := hm
  have hn0 : s.first ≠ s.next → 1 ≤ s.place s.next := fun hne => by
    have := place_ge s s.next
    rcases Int.lt_or_le 0 (s.place s.next) with h1 | h1
    · omega
    · exact absurd (place_inj h.lk.1 h.f h.n (by rw [place_self]; omega)) hne
  have hp1 : ∀ n, (start1 s).place n = s.place n := fun n => by unfold start1; split <;> rfl
  obtain ⟨t, ht⟩ : ∃ t, t = start1 s := ⟨_, rfl⟩
  have hl := h.lk
  obtain ⟨-, -, -, hw, -, -⟩ := hl
  have ht0 : t.lk = s.lk ∧ t.first = s.first ∧ t.next = s.next := by rw [ht]; unfold start1; split <;> exact ⟨rfl, rfl, rfl⟩
  have htm : (t.mark = -1 ∧ t.left = 0) ∨ (t.mark ≠ -1 ∧ snOk s.lk.bits t.mark ∧ 1 ≤ s.place t.mark ∧ s.place t.mark ≤ s.place s.next ∧ 1 ≤ t.left ∧ t.left ≤ s.lk.wait) := by
    rw [ht]; unfold start1
    by_cases c : s.mark ≠ -1 ∧ (s.place s.mark = 0 ∨ s.place s.mark > s.place s.next)
    · rw [if_pos c]; exact .inl ⟨rfl, rfl⟩
    · rw [if_neg c]
      by_cases c2 : s.mark = -1
      · exact .inl ⟨c2, m1 c2⟩
      · have := place_ge s s.mark
        have c3 : ¬ (s.place s.mark = 0 ∨ s.place s.mark > s.place s.next) := fun hh => c ⟨c2, hh⟩
        obtain ⟨m3, m4, m5⟩ := m2 c2
        exact .inr ⟨c2, m3, by omega, by omega, m4, m5⟩
  have hst : startR s = start2 t := by rw [ht]; rfl
  have hpt : ∀ n, (start2 t).place n = s.place n := fun n => by rw [← hst]; exact hp n
  rw [hst]
  unfold start2
  by_cases c : t.mark = -1 ∧ t.first ≠ t.next
  · rw [if_pos c]
    right
    have h1 := hn0 (by rw [← ht0.2.1, ← ht0.2.2]; exact c.2)
    have hpp : ∀ n, Rc.place { t with mark := t.next, left := t.lk.wait } n = s.place n := fun n => by show way t.lk.bits t.first n = _; rw [ht0.1, ht0.2.1]; rfl
    refine ⟨?_, ?_, ?_, ?_, ?_, ?_⟩
    · show t.next ≠ -1; rw [ht0.2.2]; have := h.n.1; omega
    · show snOk t.lk.bits t.next; rw [ht0.1, ht0.2.2]; exact h.n
    · rw [hpp]; show 1 ≤ s.place t.next; rw [ht0.2.2]; exact h1
    · rw [hpp]; exact Int.le_refl _
    · show 1 ≤ t.lk.wait; rw [ht0.1]; omega
    · exact Int.le_refl _
  · rw [if_neg c]
    have hpp : ∀ n, t.place n = s.place n := fun n => by unfold Rc.place; rw [ht0.1, ht0.2.1]
    rcases htm with h1 | ⟨h1, h2, h3, h4, h5, h6⟩
    · exact .inl h1
    · exact .inr ⟨h1, by rw [ht0.1]; exact h2, by rw [hpp]; exact h3, by rw [hpp, hpp, ht0.2.2]; exact h4, h5, by rw [ht0.1]; exact h6⟩
theorem tick_ok {s : Rc} (h : s.okB = true) : (tickRc s).1.okB = true := by
  obtain ⟨hc, hu, hf, hm⟩ := ok_iff.1 h
  unfold tickRc
  rw [if_neg (by rw [h]; decide)]
  dsimp only
  have hq : 0 ≤ (tick1 s).quiet ∧ (tick1 s).quiet ≤ s.lk.quiet := by
    have := hc.q
    unfold tick1; dsimp only; split <;> omega
  by_cases c : s.left = 0
  · rw [if_pos c]
    refine ok_iff.2 ⟨hc.same rfl rfl rfl hc.u hq rfl, hu, hf, ?_⟩
    exact hm
  · rw [if_neg c]
    rcases mark_iff.1 hm with ⟨_, h2⟩ | ⟨m1, m2, m3, m4, m5, m6⟩
    · exact absurd h2 c
    unfold tick2
    by_cases c2 : s.left - 1 > 0
    · rw [if_pos (show ({ tick1 s with left := s.left - 1 } : Rc).left > 0 from c2)]
      refine ok_iff.2 ⟨hc.same rfl rfl rfl hc.u hq rfl, hu, hf, mark_iff.2 (.inr ⟨m1, m2, m3, m4, ?_, ?_⟩)⟩
      · show 1 ≤ s.left - 1; omega
      · show s.left - 1 ≤ s.lk.wait; omega
    · rw [if_neg (show ¬ ({ tick1 s with left := s.left - 1 } : Rc).left > 0 from c2)]
      refine start_ok (hc.same rfl rfl rfl ?_ hq rfl) ?_ hf ⟨fun _ => ?_, fun hh => absurd rfl hh⟩
      · show snOk s.lk.bits (if s.place s.mark > s.place s.upto then s.mark else s.upto)
        split
        · exact m2
        · exact hc.u
      · show s.place (if s.place s.mark > s.place s.upto then s.mark else s.upto) ≤ s.place s.next
        split
        · exact m4
        · exact hu
      · show s.left - 1 = 0; omega
theorem rep_ok {s : Rc} {size : Int} (h : s.okB = true) (h0 : (repR s size).2.2 = 0) : (repR s size).1 = { s with due := false, quiet := s.lk.quiet } ∧ (repR s size).1.okB = true := by
  obtain ⟨hc, hu, hf, hm⟩ := ok_iff.1 h
  have e : (repR s size).1 = { s with due := false, quiet := s.lk.quiet } := by
    unfold repR at h0 ⊢
    rw [if_neg (by rw [h]; decide)] at h0 ⊢
    by_cases h2 : size < 0 ∨ size > 4096
    · rw [if_pos h2] at h0; cases h0
    rw [if_neg h2] at h0 ⊢
    by_cases h3 : s.due = false ∨ s.quiet > 0
    · rw [if_pos h3] at h0; cases h0
    rw [if_neg h3] at h0 ⊢
    dsimp only at h0 ⊢
    by_cases h4 : (fitR s.lk.bits (statR s).1 size).2 ≠ 0
    · rw [if_pos h4] at h0; exact absurd h0 h4
    · rw [if_neg h4]
  refine ⟨e, ?_⟩
  rw [e]
  have hl := hc.lk
  obtain ⟨-, -, -, -, hq, -⟩ := hl
  refine ok_iff.2 ⟨hc.same rfl rfl rfl hc.u ⟨hq.1, Int.le_refl _⟩ rfl, hu, hf, hm⟩
theorem poll_ok {s : Rc} {p : Pc} (h : s.okB = true) : (pollR s p).okB = true := by
  obtain ⟨hc, hu, hf, hm⟩ := ok_iff.1 h
  unfold pollR
  split
  · exact ok_iff.2 ⟨hc.same rfl rfl rfl hc.n hc.q rfl, Int.le_refl _, hf, hm⟩
  · exact h
end Go.Sx
/- Chapter 21, plain: a valid receiver stays valid behind a piece. -/
namespace Go.Sx
open Go.Proofs.Ytlgolgpellbnbaa
theorem place_one {s : Rc} {x : Int} {l : List Pa} (hb : bitsOk s.lk.bits) (hf : snOk s.lk.bits s.first) (hx : snOk s.lk.bits x) (h : 1 ≤ s.place x) : Rc.place { s with first := s.behind s.first, parts := l } x = s.place x - 1 := by
  show way s.lk.bits (s.behind s.first) x = way s.lk.bits s.first x - 1
  have h : 1 ≤ way s.lk.bits s.first x := h
  unfold Rc.behind
  unfold way snOk at *
  rcases pow_bits hb with e | e | e | e | e <;> rw [e] at hf hx h ⊢ <;> omega
theorem behind_ok {s : Rc} (hb : bitsOk s.lk.bits) (n : Int) : snOk s.lk.bits (s.behind n) := by
  unfold Rc.behind snOk
  rcases pow_bits hb with e | e | e | e | e <;> rw [e] <;> omega
theorem place_behind {s : Rc} {n : Int} (hb : bitsOk s.lk.bits) (hf : snOk s.lk.bits s.first) (hn : snOk s.lk.bits n) (h : s.place n < 2 ^ (s.lk.bits - 1).toNat) : s.place (s.behind n) = s.place n + 1 := by
  have h1 := (pow_bits1 hb).1
  unfold Rc.behind Rc.place way snOk at *
  rcases pow_bits hb with e | e | e | e | e <;> rw [e] at hf hn h h1 ⊢ <;> omega
/-- the first partial goes when it is done -/
theorem drop_one {s : Rc} {p : Pa} {l : List Pa} (h : Core s) (hp : s.parts = p :: l) (hf : p.sn = s.first) : Core { s with first := s.behind s.first, parts := l } := by
  have hb := h.lk.1
  have h0 : s.place p.sn = 0 := by rw [hf]; exact place_self s
  have hall := h.all
  have hasc := h.asc
  have hlast := h.last
  rw [hp] at hall hasc hlast
  rw [List.pairwise_cons] at hasc
  have hn1 : 1 ≤ s.place s.next := by have := (hall p (by simp)).2.2; omega
  have hpl : ∀ x ∈ l, Rc.place { s with first := s.behind s.first, parts := l } x.sn = s.place x.sn - 1 := fun x hx => place_one hb h.f (hall x (by simp [hx])).2.1 (by have := hasc.1 x hx; omega)
  have hpn : Rc.place { s with first := s.behind s.first, parts := l } s.next = s.place s.next - 1 := place_one hb h.f h.n hn1
  refine ⟨h.lk, behind_ok hb _, h.n, h.u, ?_, h.q, ?_, ?_, ?_⟩
  · show Rc.place { s with first := s.behind s.first, parts := l } s.next ≤ 2 ^ (s.lk.bits - 1).toNat
    rw [hpn]; have := h.half; omega
  · intro x hx
    have h2 := hall x (by simp [show x ∈ l from hx])
    refine ⟨h2.1, h2.2.1, ?_⟩
    show Rc.place { s with first := s.behind s.first, parts := l } x.sn < Rc.place { s with first := s.behind s.first, parts := l } s.next
    rw [hpl x hx, hpn]; have := h2.2.2; omega
  · exact hasc.2.imp_of_mem fun {x y} hx hy hxy => by rw [hpl x hx, hpl y hy]; omega
  · show ((l.getLast?).map fun x => Rc.place { s with first := s.behind s.first, parts := l } x.sn).getD (-1) = Rc.place { s with first := s.behind s.first, parts := l } s.next - 1
    rw [hpn]
    rw [List.getLast?_cons] at hlast
    cases hg : l.getLast? with
    | none =>
      rw [hg] at hlast
      simp only [Option.getD_none, Option.map_some, Option.getD_some] at hlast
      simp only [Option.map_none, Option.getD_none]; omega
    | some x =>
      rw [hg] at hlast
      simp only [Option.getD_some, Option.map_some] at hlast
      simp only [Option.map_some, Option.getD_some]
      rw [hpl x (List.mem_of_getLast? hg)]; omega
theorem adv1_ok : ∀ (l : List Pa) (s : Rc), s.parts = l → Core s → Core (adv1 s) ∧ NoFirst (adv1 s)
  | [], s, hs, h => by
    have e : adv1 s = s := by
      unfold adv1; rw [hs]
      show ({ s with first := s.first, parts := [] } : Rc) = s
      rw [← hs]
    rw [e]
    exact ⟨h, fun x hx => by rw [hs] at hx; simp at hx⟩
  | p :: l, s, hs, h => by
    by_cases c : p.sn = s.first ∧ p.done = true
    · have e : adv1 s = adv1 { s with first := s.behind s.first, parts := l } := by
        unfold adv1; rw [hs, dropS, if_pos c]; rfl
      rw [e]
      exact adv1_ok l _ rfl (drop_one h hs c.1)
    · have e : adv1 s = s := by
        unfold adv1; rw [hs, dropS, if_neg c]
        show ({ s with first := s.first, parts := p :: l } : Rc) = s
        rw [← hs]
      rw [e]
      refine ⟨h, fun x hx => ?_⟩
      have hasc := h.asc
      rw [hs] at hx hasc
      rw [List.pairwise_cons] at hasc
      rcases List.mem_cons.1 hx with rfl | hx
      · exact fun hh => c ⟨hh.2, hh.1⟩
      · intro hh
        have h1 := hasc.1 x hx
        rw [hh.2, place_self] at h1
        have := place_ge s p.sn
        omega
theorem adv_ok {s : Rc} (h : Core s) : Core (advS s) ∧ (advS s).place (advS s).upto ≤ (advS s).place (advS s).next ∧ NoFirst (advS s) := by
  obtain ⟨h1, h2⟩ := adv1_ok _ s rfl h
  have e : advS s = adv2 (adv1 s) := rfl
  rw [e]
  obtain ⟨t, ht⟩ : ∃ t, t = adv1 s := ⟨_, rfl⟩
  rw [← ht] at h1 h2 ⊢
  unfold adv2
  by_cases c : t.place t.upto > t.place t.next
  · rw [if_pos c]
    refine ⟨h1.same rfl rfl rfl h1.f h1.q rfl, ?_, h2⟩
    show t.place t.first ≤ t.place t.next
    rw [place_self]; exact place_ge t t.next
  · rw [if_neg c]
    exact ⟨h1, by omega, h2⟩
theorem while_split {α : Type} (q : α → Bool) : ∀ l : List α, (∀ x ∈ l.take (l.takeWhile q).length, q x = true) ∧ ∀ x, (l.drop (l.takeWhile q).length).head? = some x → q x = false
  | [] => ⟨fun x hx => by simp at hx, fun x hx => by simp at hx⟩
  | y :: l => by
    obtain ⟨h1, h2⟩ := while_split q l
    cases hy : q y with
    | false =>
      simp only [List.takeWhile_cons, hy]
      exact ⟨fun x hx => by simp at hx, fun x hx => by simp at hx; rw [← hx]; exact hy⟩
    | true =>
      simp only [List.takeWhile_cons, hy, if_true, List.length_cons, List.take_succ_cons, List.drop_succ_cons]
      refine ⟨fun x hx => ?_, h2⟩
      rcases List.mem_cons.1 hx with rfl | hx
      · exact hy
      · exact h1 x hx
/-- the partials, with the place of a number among them -/
theorem at_split {s : Rc} (h : Core s) {n : Int} (hn : snOk s.lk.bits n) :
    (∀ x ∈ s.parts.take (atP s n), s.place x.sn < s.place n) ∧ ((foundB s n = false ∧ ∀ x ∈ s.parts.drop (atP s n), s.place n < s.place x.sn) ∨
      ∃ y l, foundB s n = true ∧ s.parts.drop (atP s n) = y :: l ∧ s.parts[atP s n]? = some y ∧ y.sn = n ∧ ∀ x ∈ l, s.place n < s.place x.sn) := by
  obtain ⟨h1, h2⟩ := while_split (fun p : Pa => decide (s.place p.sn < s.place n)) s.parts
  refine ⟨fun x hx => of_decide_eq_true (h1 x hx), ?_⟩
  have hasc := h.asc.drop (i := atP s n)
  have h2 : ∀ x, (s.parts.drop (atP s n)).head? = some x → s.place n ≤ s.place x.sn := fun x hx => by have := of_decide_eq_false (h2 x hx); omega
  have hgd : s.parts[atP s n]? = (s.parts.drop (atP s n)).head? := by rw [List.head?_drop]
  cases hd : s.parts.drop (atP s n) with
  | nil =>
    left
    refine ⟨?_, fun x hx => by simp at hx⟩
    unfold foundB; rw [hgd, hd]; rfl
  | cons y l =>
    rw [hd] at hasc h2 hgd
    rw [List.pairwise_cons] at hasc
    have h3 := h2 y rfl
    have hy : y ∈ s.parts := List.mem_of_mem_drop (i := atP s n) (by rw [hd]; simp)
    by_cases c : y.sn = n
    · right
      refine ⟨y, l, ?_, rfl, hgd, c, fun x hx => ?_⟩
      · unfold foundB; rw [hgd]; exact decide_eq_true c
      · have := hasc.1 x hx; rw [c] at this; exact this
    · left
      have h4 : s.place n ≠ s.place y.sn := fun e => c (place_inj h.lk.1 (h.all y hy).2.1 hn e.symm)
      refine ⟨?_, fun x hx => ?_⟩
      · unfold foundB; rw [hgd]; exact decide_eq_false c
      · rcases List.mem_cons.1 hx with rfl | hx
        · omega
        · have := hasc.1 x hx; omega
theorem last_app {A : List Pa} {y : Pa} {B : List Pa} : (A ++ y :: B).getLast? = some (B.getLast?.getD y) := by
  rw [List.getLast?_append, List.getLast?_cons]; rfl
theorem put_core {s : Rc} {p : Pc} (h : Core s) (hp : p.ok s.lk.bits) (hr : refusedS s p = 0) : Core (putP s p) := by
  obtain ⟨hb, hsn, -, -, -, hpo, hpd, hpe⟩ := hp
  have hsn : snOk s.lk.bits p.sn := hsn
  have hp3 : (0 ≤ p.off ∧ p.off ≤ 2054) ∧ 1 ≤ p.data.length ∧ p.off + p.data.length ≤ 2054 := ⟨hpo, hpd, hpe⟩
  have hold : s.place p.sn < 2 ^ (s.lk.bits - 1).toNat := by
    unfold refusedS at hr
    split at hr
    · cases hr
    · omega
  have hold' : ¬ s.place p.sn ≥ 2 ^ (s.lk.bits - 1).toNat := by omega
  obtain ⟨hA, hsp⟩ := at_split h hsn
  obtain ⟨A, hAe⟩ : ∃ A, A = s.parts.take (atP s p.sn) := ⟨_, rfl⟩
  have hpl : s.parts = A ++ s.parts.drop (atP s p.sn) := by rw [hAe, List.take_append_drop]
  have hkl : atP s p.sn ≤ s.parts.length := by
    have := congrArg List.length (List.takeWhile_append_dropWhile (p := fun p' : Pa => decide (s.place p'.sn < s.place p.sn)) (l := s.parts))
    rw [List.length_append] at this
    show (s.parts.takeWhile _).length ≤ _
    omega
  have hAl : A.length = atP s p.sn := by rw [hAe, List.length_take]; omega
  obtain ⟨y', hy'⟩ : ∃ y', y' = if compB (mergedS s p) then donePa p.sn else mergedS s p := ⟨_, rfl⟩
  have hput : (putP s p).parts = (insS s p).set (atP s p.sn) y' := by rw [hy']; rfl
  have key : ∃ (x : Pa) (B : List Pa), Open x ∧ x.sn = p.sn ∧ contraB x p = false ∧ mergedS s p = mergeS x p ∧ (putP s p).parts = A ++ y' :: B ∧ (∀ z ∈ B, z ∈ s.parts ∧ s.place p.sn < s.place z.sn) ∧ (B.Pairwise fun x y => s.place x.sn < s.place y.sn) ∧
      (B = [] → s.place p.sn ≥ s.place s.next ∨ s.place p.sn = s.place s.next - 1) ∧ (B ≠ [] → B.getLast? = s.parts.getLast?) := by
    have hascd := h.asc.drop (i := atP s p.sn)
    have hlast := h.last
    rcases hsp with ⟨hf, hB⟩ | ⟨y, B, hf, hd, hg, hysn, hB⟩
    · have hi : insS s p = A ++ newPa p.sn :: s.parts.drop (atP s p.sn) := by rw [insS, if_neg (by rw [hf]; decide), hAe]
      refine ⟨newPa p.sn, s.parts.drop (atP s p.sn), open_new _, rfl, contra_new _ _ (by show 1 ≤ p.off + p.data.length; omega), ?_, ?_, fun z hz => ⟨List.mem_of_mem_drop hz, hB z hz⟩, hascd, fun hn => ?_, fun hn => ?_⟩
      · unfold mergedS; rw [hi, List.getElem?_append_right (by omega), hAl, Nat.sub_self]; rfl
      · rw [hput, hi, List.set_append_right _ _ (by omega), hAl, Nat.sub_self]; rfl
      · left
        rw [hn, List.append_nil] at hpl
        rw [hpl] at hlast
        cases hg : A.getLast? with
        | none =>
          rw [hg] at hlast
          simp only [Option.map_none, Option.getD_none] at hlast
          have := place_ge s p.sn; omega
        | some x =>
          rw [hg] at hlast
          simp only [Option.map_some, Option.getD_some] at hlast
          have := hA x (by rw [← hAe]; exact List.mem_of_getLast? hg)
          omega
      · rw [hpl, List.getLast?_append]
        rw [List.drop_append, hAl, Nat.sub_self, List.drop_zero, List.drop_of_length_le (by omega), List.nil_append]
        cases hg : (s.parts.drop (atP s p.sn)).getLast? with
        | none => exact absurd (List.getLast?_eq_none_iff.1 hg) hn
        | some x => rfl
    · have hi : insS s p = A ++ y :: B := by rw [insS, if_pos hf, hpl, hd]
      rw [hd, List.pairwise_cons] at hascd
      have hym : y ∈ s.parts := List.mem_of_getElem? hg
      have hr2 := hr
      unfold refusedS at hr2
      rw [if_neg hold', hg] at hr2
      dsimp only at hr2
      rw [if_pos hysn] at hr2
      have hyd : y.done = false := by
        cases hyd : y.done with
        | false => rfl
        | true => rw [hyd] at hr2; simp at hr2
      rw [if_neg (by rw [hyd]; decide)] at hr2
      have hyc : contraB y p = false := by
        cases hyc : contraB y p with
        | false => rfl
        | true => rw [hyc] at hr2; simp at hr2
      refine ⟨y, B, open_of hyd (h.all y hym).1, hysn, hyc, ?_, ?_, fun z hz => ⟨List.mem_of_mem_drop (i := atP s p.sn) (by rw [hd]; simp [hz]), hB z hz⟩, hascd.2, fun hn => ?_, fun hn => ?_⟩
      · unfold mergedS; rw [hi, List.getElem?_append_right (by omega), hAl, Nat.sub_self]; rfl
      · rw [hput, hi, List.set_append_right _ _ (by omega), hAl, Nat.sub_self]; rfl
      · right
        rw [hn] at hd
        rw [hpl, hd, last_app] at hlast
        simp only [List.getLast?_nil, Option.getD_none, Option.map_some, Option.getD_some, hysn] at hlast
        exact hlast
      · rw [hpl, hd, last_app]
        cases hg2 : B.getLast? with
        | none => exact absurd (List.getLast?_eq_none_iff.1 hg2) hn
        | some x => rfl
  obtain ⟨x, B, hox, hxs, hxc, hmg, hparts, hBm, hBa, hB0, hB1⟩ := key
  have hys : y'.sn = p.sn := by
    rw [hy']
    split
    · rfl
    · rw [hmg]; exact hxs
  have hyp : paB y' = true := by
    rw [hy']
    by_cases hc : compB (mergedS s p) = true
    · rw [if_pos hc]; rfl
    · rw [if_neg hc, hmg]
      exact merge_pa hox hxs hp3 hxc (by rw [← hmg]; simpa using hc)
  have hpl2 : ∀ n, (putP s p).place n = s.place n := fun _ => rfl
  have hnx : (putP s p).next = if s.place p.sn ≥ s.place s.next then s.behind p.sn else s.next := rfl
  have hpn : s.place (putP s p).next = if s.place p.sn ≥ s.place s.next then s.place p.sn + 1 else s.place s.next := by
    rw [hnx]
    split
    · exact place_behind hb h.f hsn hold
    · rfl
  have hge : s.place s.next ≤ s.place (putP s p).next := by rw [hpn]; split <;> omega
  have hge2 : s.place p.sn < s.place (putP s p).next := by rw [hpn]; split <;> omega
  refine ⟨h.lk, h.f, ?_, h.u, ?_, h.q, ?_, ?_, ?_⟩
  · show snOk s.lk.bits (putP s p).next
    rw [hnx]
    split
    · exact behind_ok hb _
    · exact h.n
  · show s.place (putP s p).next ≤ 2 ^ (s.lk.bits - 1).toNat
    have := h.half
    rw [hpn]; split <;> omega
  · intro z hz
    rw [hparts] at hz
    show paB z = true ∧ snOk s.lk.bits z.sn ∧ s.place z.sn < s.place (putP s p).next
    rcases List.mem_append.1 hz with hz | hz
    · have := h.all z (by rw [hpl]; exact List.mem_append_left _ hz)
      exact ⟨this.1, this.2.1, by omega⟩
    · rcases List.mem_cons.1 hz with rfl | hz
      · exact ⟨hyp, by rw [hys]; exact hsn, by rw [hys]; exact hge2⟩
      · have := h.all z (hBm z hz).1
        exact ⟨this.1, this.2.1, by omega⟩
  · show (putP s p).parts.Pairwise fun x y => s.place x.sn < s.place y.sn
    rw [hparts, List.pairwise_append]
    refine ⟨?_, List.pairwise_cons.2 ⟨fun z hz => ?_, hBa⟩, fun z hz u hu => ?_⟩
    · have := h.asc.take (i := atP s p.sn); rwa [← hAe] at this
    · rw [hys]; exact (hBm z hz).2
    · have h1 := hA z (by rw [← hAe]; exact hz)
      rcases List.mem_cons.1 hu with rfl | hu
      · rw [hys]; exact h1
      · have := (hBm u hu).2; omega
  · show (((putP s p).parts.getLast?).map fun x => s.place x.sn).getD (-1) = s.place (putP s p).next - 1
    rw [hparts, last_app, hpn]
    simp only [Option.map_some, Option.getD_some]
    by_cases hBe : B = []
    · rw [hBe]
      simp only [List.getLast?_nil, Option.getD_none, hys]
      rcases hB0 hBe with h1 | h1
      · rw [if_pos h1]; omega
      · rw [if_neg (by omega)]; omega
    · have h1 := hB1 hBe
      cases hg : B.getLast? with
      | none => rw [List.getLast?_eq_none_iff] at hg; exact absurd hg hBe
      | some z =>
        have hl := h.last
        rw [← h1, hg] at hl
        simp only [Option.map_some, Option.getD_some] at hl
        have := (hBm z (List.mem_of_getLast? hg)).2
        rw [if_neg (by omega)]
        simp only [Option.getD_some]
        exact hl
theorem rec_ok {s : Rc} {bs : List Int} (h : s.okB = true) (hg : ∀ b bs, (decP b bs).2 = 0 → (decP b bs).1.ok b) : (recS s bs).1.okB = true := by
  obtain ⟨hc, hu, hf, hm⟩ := ok_iff.1 h
  unfold recS
  rw [if_neg (by rw [h]; decide)]
  dsimp only
  by_cases h2 : (decP s.lk.bits bs).2 ≠ 0
  · rw [if_pos h2]; exact h
  rw [if_neg h2]
  by_cases h3 : refusedS s (decP s.lk.bits bs).1 ≠ 0
  · rw [if_pos h3]; exact poll_ok h
  rw [if_neg h3]
  refine poll_ok ?_
  have hk := put_core hc (hg _ _ (by simpa using h2)) (by simpa using h3)
  obtain ⟨a1, a2, a3⟩ := adv_ok hk
  refine start_ok a1 a2 a3 ?_
  have hw := mark_w hm
  have e : ∀ t : Rc, (advS t).mark = t.mark ∧ (advS t).left = t.left ∧ (advS t).lk = t.lk := fun t => by unfold advS adv2; split <;> exact ⟨rfl, rfl, rfl⟩
  obtain ⟨e1, e2, e3⟩ := e (putP s (decP s.lk.bits bs).1)
  unfold MarkW
  rw [e1, e2, e3]
  exact hw
theorem new_ok {l : Lk} (h : lkOk l) {f : Int} (hf : snOk l.bits f) : Rc.okB ⟨l, f, f, f, -1, 0, 0, false, []⟩ = true := by
  refine ok_iff.2 ⟨⟨h, hf, hf, hf, ?_, ⟨Int.le_refl _, h.2.2.2.2.1.1⟩, fun x hx => by simp at hx, .nil, ?_⟩, Int.le_refl _, fun x hx => by simp at hx, rfl⟩
  · have := pow_bits1 h.1
    rw [show Rc.place ⟨l, f, f, f, -1, 0, 0, false, []⟩ f = 0 from place_self _]
    show (0 : Int) ≤ 2 ^ (l.bits - 1).toNat
    omega
  · rw [show Rc.place ⟨l, f, f, f, -1, 0, 0, false, []⟩ f = 0 from place_self _]; rfl
end Go.Sx
/- CHAPTER 21: throws of links; filled bytes. -/
namespace Go.Proofs.Ytlgolgpellbnbaa
open Go.Sx Go.RowKit
set_option maxRecDepth 100000
theorem low_pow {b x : Int} (hb : bitsOk b) : (if 1 ≤ b ∧ b ≤ 32 then x % 2 ^ b.toNat else -1) = x % 2 ^ b.toNat := by
  obtain ⟨h1, h2⟩ := hb
  rw [if_pos (by omega)]
def fillB (seed : Int) (n : Nat) : List Int := (List.range n).map fun i : Nat => (seed + 7 * (i : Int) + (i : Int) / 16) % 256
theorem fillB_len (seed : Int) (n : Nat) : (fillB seed n).length = n := by simp [fillB]
theorem fillB_succ (seed : Int) (n : Nat) : fillB seed (n + 1) = fillB seed n ++ [(seed + 7 * (n : Int) + (n : Int) / 16) % 256] := by simp [fillB, List.range_succ]
theorem fillB_bytes (seed : Int) (n : Nat) : Bytes (fillB seed n) := fun i hi => by simp [fillB]; omega
section
variable {g : Nat} {a : Option Addr} {c : Nat} {ts : List Int} {p : Nat} {w : World} {A : Nat → Prop} {P : World → Prop}
end
section
variable {A0 : Nat → Prop} {M : List Nat} {w0 w : World} {R : List Res} {P : World → Prop} {i g : Nat} {a : Option Addr} {c : Nat} {ts : List Int} {p : Nat}
end

section
variable {g : Nat} {a : Option Addr} {c : Nat} {ts : List Int} {p : Nat} {w : World} {A : Nat → Prop} {P : World → Prop}
end
end Go.Proofs.Ytlgolgpellbnbaa
/- CHAPTER 21: a thrown piece. -/
namespace Go.Proofs.Ytlgolgpellbnbaa
open Go.Sx Go.RowKit
set_option maxRecDepth 100000
theorem kNo {w w' : World} : KeepsB (fun _ => False) w w' := fun _ _ hp _ => hp.elim
theorem bytes_cut {u : List Int} (h : Bytes u) (f n : Nat) : Bytes ((u.drop f).take n) := by
  rw [bytes_mem] at *
  exact fun x hx => h x (List.mem_of_mem_drop (List.mem_of_mem_take hx))
theorem encP_bytes {b : Int} {p : Pc} (h : Bytes p.data) : Bytes (encP b p).1 := by
  unfold encP
  split
  · rename_i hp
    have hf := Pc.first_range hp
    obtain ⟨_, _, _, _, _, ho, _⟩ := hp
    rw [bytes_mem] at h ⊢
    intro x hx
    unfold Pc.bytes at hx
    simp only [List.mem_append] at hx
    rcases hx with (hx | hx) | hx
    · simp at hx; omega
    · split at hx
      · simp at hx
      · simp at hx; omega
    · exact h x hx
  · exact bytes_nil
theorem encP_len (b : Int) (p : Pc) : (encP b p).1.length ≤ p.data.length + 4 := by
  unfold encP Pc.bytes
  split
  · simp only [List.length_append, List.length_cons, List.length_nil]
    split <;> simp <;> omega
  · simp
section
variable {g : Nat} {a : Option Addr} {c : Nat} {ts : List Int} {p : Nat} {w : World} {A : Nat → Prop} {P : World → Prop} {s : Rc} {sa : Option Addr} {sc : Nat}
end
end Go.Proofs.Ytlgolgpellbnbaa
/- Chapter 21, plain: the report of a valid receiver is valid. -/
namespace Go.Sx
open Go.Proofs.Ytlgolgpellbnbaa
def lastO : Option Rg → List Rg → Option Rg
  | p, [] => p
  | _, x :: L => lastO (some x) L
theorem lastO_mem : ∀ (L : List Rg) (p : Option Rg) (q : Rg), lastO p L = some q → q ∈ L ∨ p = some q
  | [], p, q, h => .inr h
  | x :: L, p, q, h => by
    rcases lastO_mem L (some x) q h with h | h
    · exact .inl (by simp [h])
    · injection h with h; subst h; exact .inl (by simp)
def linkP (s : Rc) : Option Rg → Rg → Prop
  | none, _ => True
  | some q, r => s.place q.sn ≤ s.place r.sn ∧ (s.place r.sn = s.place q.sn → ¬ (whole q ∨ whole r ∨ r.f ≤ q.t))
/-- ranges of a report, by their places -/
def chP (s : Rc) : Option Rg → List Rg → Prop
  | _, [] => True
  | p, r :: l => (snOk s.lk.bits r.sn ∧ (whole r ∨ isPart r) ∧ linkP s p r) ∧ chP s (some r) l
theorem chP_app (s : Rc) (M : List Rg) : ∀ (L : List Rg) (p : Option Rg), chP s p (L ++ M) ↔ chP s p L ∧ chP s (lastO p L) M
  | [], p => by simp [chP, lastO]
  | x :: L, p => by simp only [List.cons_append, chP, lastO, chP_app s M L, and_assoc]
theorem way_place {s : Rc} {x n : Int} (hb : bitsOk s.lk.bits) (hf : snOk s.lk.bits s.first) (hx : snOk s.lk.bits x) (hn : snOk s.lk.bits n) (h : s.place x ≤ s.place n) : way s.lk.bits x n = s.place n - s.place x := by
  have h : way s.lk.bits s.first x ≤ way s.lk.bits s.first n := h
  show way s.lk.bits x n = way s.lk.bits s.first n - way s.lk.bits s.first x
  unfold way snOk at *
  rcases pow_bits hb with e | e | e | e | e <;> rw [e] at hf hx hn h ⊢ <;> omega
theorem chP_chain {s : Rc} {n : Int} (hb : bitsOk s.lk.bits) (hf : snOk s.lk.bits s.first) (hn : snOk s.lk.bits n) (hh : s.place n ≤ 2 ^ (s.lk.bits - 1).toNat) : ∀ (L : List Rg) (p : Option Rg), chP s p L → (∀ r ∈ L, s.place r.sn < s.place n) → (∀ q, p = some q → snOk s.lk.bits q.sn ∧ s.place q.sn < s.place n) → chainB s.lk.bits n p L = true
  | [], _, _, _, _ => rfl
  | r :: L, p, h, hL, hp => by
    obtain ⟨⟨h1, h2, h3⟩, h4⟩ := h
    have hr := hL r (by simp)
    have hw := way_place hb hf h1 hn (by omega)
    have h0 := place_ge s r.sn
    simp only [chainB, Bool.and_eq_true, decide_eq_true_iff]
    refine ⟨⟨⟨h1, by rw [hw]; omega, h2⟩, ?_⟩, chP_chain hb hf hn hh L (some r) h4 (fun x hx => hL x (by simp [hx])) fun q hq => by injection hq with hq; subst hq; exact ⟨h1, hr⟩⟩
    cases p with
    | none => trivial
    | some q =>
      obtain ⟨hq1, hq2⟩ := hp q rfl
      have hwq := way_place hb hf hq1 hn (by omega)
      obtain ⟨h5, h6⟩ := h3
      exact ⟨by rw [hw, hwq]; omega, fun e => h6 (by rw [hw, hwq] at e; omega)⟩
theorem chP_norm {s : Rc} {n : Int} (hn : snOk s.lk.bits n) : ∀ (M : List Rg) (p : Option Rg) (t : Int), normB t M = true → -1 ≤ t → (∀ r ∈ M, r.sn = n ∧ r.t ≤ 65535) → (∀ q, p = some q → q.sn = n ∧ ¬ whole q ∧ q.t = t) → chP s p M
  | [], _, _, _, _, _, _ => trivial
  | r :: M, p, t, h, ht, hr, hp => by
    simp only [normB, Bool.and_eq_true, decide_eq_true_iff] at h
    obtain ⟨hr1, hr2⟩ := hr r (by simp)
    have hnw : ¬ whole r := fun h => by have := h.1; have := h.2; omega
    refine ⟨⟨by rw [hr1]; exact hn, .inr ⟨by omega, by omega, hr2⟩, ?_⟩, chP_norm hn M (some r) r.t h.2 (by omega) (fun x hx => hr x (by simp [hx])) fun q hq => by injection hq with hq; subst hq; exact ⟨hr1, hnw, rfl⟩⟩
    cases p with
    | none => trivial
    | some q =>
      obtain ⟨h1, h2, h3⟩ := hp q rfl
      exact ⟨by rw [hr1, h1]; exact Int.le_refl _, fun _ h => by rcases h with h | h | h; exact h2 h; exact hnw h; omega⟩
/-- what is missing of a number, as ranges of a report -/
theorem miss_chP {s : Rc} {n : Int} (h : Core s) (hn : snOk s.lk.bits n) : chP s none (missP s n) ∧ ∀ r ∈ missP s n, r.sn = n := by
  have key : ∀ o : Option Pa, (∀ x, o = some x → x ∈ s.parts ∧ x.sn = n) → chP s none (missO n o) ∧ ∀ r ∈ missO n o, r.sn = n := fun o ho => by
    cases o with
    | none => exact ⟨⟨⟨hn, .inl ⟨rfl, rfl⟩, trivial⟩, trivial⟩, fun r hr => by simp [missO] at hr; rw [hr]⟩
    | some x =>
      obtain ⟨hx, hxs⟩ := ho x rfl
      have hpb := (h.all x hx).1
      unfold missO
      by_cases hd : x.done = true
      · simp only [hd, if_true]
        exact ⟨trivial, fun r hr => by simp at hr⟩
      · have hd : x.done = false := by simpa using hd
        obtain ⟨-, h2, h3, h4, h5, -⟩ := open_of hd hpb
        simp only [hd, Bool.false_eq_true, if_false]
        have hm := gaps_sn n (if x.len = -1 then 65535 else x.len) x.come 0
        have hend := end_come h3 h4
        refine ⟨chP_norm hn _ none (-1) (gaps_norm n _ x.come (-1) 0 (by simpa using h3) (by omega)) (Int.le_refl _) (fun r hr => ⟨hm r hr, ?_⟩) (fun q hq => by cases hq), hm⟩
        have h6 := gaps_le n (if x.len = -1 then 65535 else x.len) x.come 0 (fun y hy => by
          have h7 := norm_lt _ _ h3 y hy
          have h8 := hend y hy
          split <;> omega) r hr
        split at h6 <;> omega
  refine key _ fun x hx => ?_
  unfold idx at hx
  cases hi : s.parts.findIdx? (fun p => decide (p.sn = n)) with
  | none => rw [hi] at hx; simp at hx
  | some i =>
    rw [hi] at hx
    obtain ⟨h1, h2, _⟩ := List.findIdx?_eq_some_iff_getElem.1 hi
    simp only [Option.map_some, Option.getD_some] at hx
    rw [if_neg (by omega), Int.toNat_natCast, List.getElem?_eq_getElem h1] at hx
    injection hx with hx
    subst hx
    exact ⟨List.getElem_mem h1, by simpa using h2⟩
theorem statS_ok {s : Rc} (h : Core s) (hu : s.place s.upto ≤ s.place s.next) : ∀ (k : Nat) (n : Int) (O : List Rg), snOk s.lk.bits n → s.place n + k = s.place s.upto → O.length ≤ 64 → chP s none O → (∀ r ∈ O, snOk s.lk.bits r.sn ∧ s.place r.sn < s.place n) → okS s.lk.bits (statS s k n O)
  | 0, n, O, hn, hk, hl, hc, hO => by
    have hb := h.lk.1
    have e : n = s.upto := place_inj hb hn h.u (by omega)
    have hh := h.half
    subst e
    exact ⟨hb, h.u, hl, chP_chain hb h.f h.u (by omega) O none hc (fun r hr => (hO r hr).2) fun q hq => by cases hq⟩
  | k + 1, n, O, hn, hk, hl, hc, hO => by
    have hb := h.lk.1
    have hh := h.half
    unfold statS
    by_cases c : O.length + (missP s n).length > 64
    · rw [if_pos c]
      exact ⟨hb, hn, hl, chP_chain hb h.f hn (by omega) O none hc (fun r hr => (hO r hr).2) fun q hq => by cases hq⟩
    · rw [if_neg c]
      have hpb := place_behind hb h.f hn (by omega)
      obtain ⟨m1, m2⟩ := miss_chP h hn
      refine statS_ok h hu k (s.behind n) (O ++ missP s n) (behind_ok hb n) (by rw [hpb]; omega) (by rw [List.length_append]; omega) ((chP_app s _ _ _).2 ⟨hc, ?_⟩) fun r hr => ?_
      · cases hM : missP s n with
        | nil => trivial
        | cons r M =>
          rw [hM] at m1 m2
          obtain ⟨⟨g1, g2, _⟩, g3⟩ := m1
          refine ⟨⟨g1, g2, ?_⟩, g3⟩
          cases hq : lastO none O with
          | none => trivial
          | some q =>
            rcases lastO_mem O none q hq with h1 | h1
            · have h2 := (hO q h1).2
              have h3 := m2 r (by simp)
              exact ⟨by rw [h3]; omega, fun e => by rw [h3] at e; omega⟩
            · cases h1
      · rw [hpb]
        rcases List.mem_append.1 hr with hr | hr
        · exact ⟨(hO r hr).1, by have := (hO r hr).2; omega⟩
        · rw [m2 r hr]; exact ⟨hn, by omega⟩
/-- the report of a valid receiver is valid -/
theorem statR_ok {s : Rc} (h : s.okB = true) : okS s.lk.bits (statR s).1 := by
  obtain ⟨hc, hu, -, -⟩ := ok_iff.1 h
  unfold statR
  rw [if_neg (by rw [h]; decide)]
  have := place_ge s s.upto
  refine statS_ok hc hu _ _ [] hc.f (by rw [place_self]; omega) (by simp) trivial fun r hr => by simp at hr
/-- with room for all, a report is left as it is -/
theorem fitS_all (sp u : Int) (L : List Rg) : ∀ (l : List Rg) (k : Nat) (used : Int) (unit : Nat) (p : Option Rg), used + 6 * l.length ≤ sp → fitS sp u L k used unit p l = ⟨u, L⟩
  | [], _, _, _, _, _ => rfl
  | r :: l, k, used, unit, p, h => by
    have hz : szR r ≤ 6 := by unfold szR; split <;> omega
    simp only [List.length_cons] at h
    unfold fitS
    rw [if_neg (by omega)]
    exact fitS_all sp u L l _ _ _ _ (by omega)
theorem fit_all {b : Int} {s : Stt} (h : okS b s) : fitR b s 4096 = (s, 0) := by
  unfold fitR
  rw [if_neg (fun hh => hh h), if_neg (by omega), fitS_all _ _ _ _ _ _ _ _ (by have := h.2.2.1; omega)]
/-- a report whole: a receiver of which one is due, and which is not quiet -/
theorem rep_all {s : Rc} (h : s.okB = true) (hd : s.due = true) (hq : ¬ s.quiet > 0) : repR s 4096 = ({ s with due := false, quiet := s.lk.quiet }, (encS s.lk.bits (statR s).1).1, 0) := by
  unfold repR
  rw [if_neg (by rw [h]; decide), if_neg (by omega), if_neg (by rw [hd]; simp; omega), fit_all (statR_ok h)]
  rfl
end Go.Sx
/- Chapter 21, plain: a receiver with one unit behind a gap; no program in sight. -/
namespace Go.Sx
theorem decP_bytesP {b : Int} {p : Pc} (h : p.ok b) : decP b p.bytes = (p, 0) := by
  obtain ⟨sn, part, poll, off, d⟩ := p
  have hf := Pc.first_range h
  obtain ⟨hb, h0, h1, h2, h3, h4, h5, h6⟩ := h
  simp only at h0 h1 h2 h3 h4 h5 h6
  have hp := pow_bits hb
  obtain ⟨f, hfe⟩ : ∃ f, f = Pc.first ⟨sn, part, poll, off, d⟩ := ⟨_, rfl⟩
  have hfe2 := hfe
  simp only [Pc.first] at hfe2
  rw [← hfe] at hf
  have g0 : (Pc.bytes ⟨sn, part, poll, off, d⟩).getD 0 0 = f / 256 := by rw [hfe]; rfl
  have g1 : (Pc.bytes ⟨sn, part, poll, off, d⟩).getD 1 0 = f % 256 := by rw [hfe]; rfl
  have ef : 256 * (Pc.bytes ⟨sn, part, poll, off, d⟩).getD 0 0 + (Pc.bytes ⟨sn, part, poll, off, d⟩).getD 1 0 = f := by rw [g0, g1]; omega
  have hh2 : (part = 0 ∨ part = 1) ∧ headN part = 2 ∨ ¬ (part = 0 ∨ part = 1) ∧ headN part = 4 := by
    unfold headN; by_cases hc : part = 0 ∨ part = 1
    · exact .inl ⟨hc, if_pos hc⟩
    · exact .inr ⟨hc, if_neg hc⟩
  have hraw : rawP (Pc.bytes ⟨sn, part, poll, off, d⟩) = ⟨sn, part, poll, off, d⟩ := by
    unfold rawP
    simp only [ef]
    have e1 : f % 4096 = sn := by omega
    have e2 : f / 4096 % 4 = part := by omega
    have e3 : f / 16384 % 2 = poll := by omega
    rw [e1, e2, e3]
    rcases hh2 with ⟨hc, hh⟩ | ⟨hc, hh⟩
    · rw [if_pos hc, hh]
      simp only [Pc.bytes, if_pos hc, List.append_nil]
      have : off = 0 := by omega
      rw [this]; rfl
    · rw [if_neg hc, hh]
      simp only [Pc.bytes, if_neg hc]
      have : 256 * (off / 256) + off % 256 = off := by omega
      simp [this]
  have hlen : (Pc.bytes ⟨sn, part, poll, off, d⟩).length = headN part + d.length := by
    unfold Pc.bytes headN
    split <;> simp <;> omega
  unfold decP
  rw [if_neg (by simpa using hb), if_neg (by rcases hh2 with ⟨_, hh⟩ | ⟨_, hh⟩ <;> omega), hraw, if_neg (by simp only; omega), if_neg (by
    rw [g0]; simp only [not_or, Decidable.not_not]
    exact ⟨by omega, hb, h0, h1, h2, h3, h4, h5, h6⟩)]
/-- a receiver that waits for the numbers before sn -/
def wR (l : Lk) (sn u left : Int) (due : Bool) : Rc := ⟨l, 0, sn + 1, u, sn + 1, left, 0, due, [donePa sn]⟩
section
variable {l : Lk} {sn u left : Int} {due : Bool}
theorem wR_ok (h : lkOk l) (hs : 1 ≤ sn ∧ sn ≤ 5) (hu : u = 0 ∨ u = sn + 1) (hl : 1 ≤ left ∧ left ≤ l.wait) : (wR l sn u left due).okB = true := by
  have hb : bitsOk l.bits := h.1
  have hq := h.2.2.2.2.1
  have hh : (2 : Int) ^ (l.bits - 1).toNat = 16 ∨ 16 < (2 : Int) ^ (l.bits - 1).toNat := by
    obtain ⟨h1, h2⟩ := hb
    rcases (show l.bits = 5 ∨ l.bits = 6 ∨ l.bits = 7 ∨ l.bits = 8 ∨ l.bits = 9 by omega) with e | e | e | e | e <;> rw [e] <;> decide
  have p0 : ∀ n : Int, 0 ≤ n → n ≤ 6 → way l.bits 0 n = n ∧ snOk l.bits n := fun n h0 h6 => by
    unfold way snOk
    rcases pow_bits hb with e | e | e | e | e <;> rw [e] <;> omega
  obtain ⟨a1, a2⟩ := p0 (sn + 1) (by omega) (by omega)
  obtain ⟨b1, b2⟩ := p0 0 (by omega) (by omega)
  obtain ⟨c1, c2⟩ := p0 sn (by omega) (by omega)
  obtain ⟨d1, d2⟩ := p0 u (by omega) (by omega)
  have hH : headB (wR l sn u left due) = true := by
    unfold headB wR Rc.place
    refine decide_eq_true ⟨h, b2, a2, d2, ?_, ?_, Int.le_refl _, ?_⟩
    · dsimp only; rw [a1]; omega
    · dsimp only; rw [a1, d1]; omega
    · dsimp only; omega
  have hM : markB (wR l sn u left due) = true := by
    unfold markB wR Rc.place
    dsimp only
    rw [if_neg (by omega)]
    refine decide_eq_true ⟨a2, ?_, ?_, hl.1, hl.2⟩
    · rw [a1]; omega
    · omega
  have hP : paFrom (wR l sn u left due) (-1) [donePa sn] = true := by
    have g1 : (wR l sn u left due).place sn = sn := c1
    have g2 : (wR l sn u left due).place (wR l sn u left due).next = sn + 1 := a1
    have g3 : paAt (wR l sn u left due) (-1) (donePa sn) = true := by
      unfold paAt
      rw [show (donePa sn).sn = sn from rfl, g1, g2]
      simp only [Bool.and_eq_true, decide_eq_true_eq, Bool.or_eq_true, Bool.not_eq_true']
      exact ⟨⟨⟨c2, by omega, by omega⟩, .inr (decide_eq_false (by show ¬ sn = 0; omega))⟩, rfl⟩
    show (paAt (wR l sn u left due) (-1) (donePa sn) && decide ((wR l sn u left due).place sn = (wR l sn u left due).place (wR l sn u left due).next - 1)) = true
    rw [g3, g1, g2, Bool.true_and]
    exact decide_eq_true (by omega)
  unfold Rc.okB
  rw [hH, hM]
  show (true && paFrom (wR l sn u left due) (-1) [donePa sn] && true) = true
  rw [hP]; rfl
theorem wR_rec (h : lkOk l) (hs : 1 ≤ sn ∧ sn ≤ 5) : (encP l.bits ⟨sn, 0, 0, 0, [1]⟩).2 = 0 ∧ recS (newRc l).1 (encP l.bits ⟨sn, 0, 0, 0, [1]⟩).1 = (wR l sn 0 l.wait false, [1], 0) := by
  have hb : bitsOk l.bits := h.1
  have hp := pow_bits hb
  have hq : Pc.ok l.bits ⟨sn, 0, 0, 0, [1]⟩ := by
    refine ⟨hb, ⟨by show 0 ≤ sn; omega, by show sn < _; omega⟩, ⟨by show (0 : Int) ≤ 0; omega, by show (0 : Int) ≤ 3; omega⟩, ⟨by show (0 : Int) ≤ 0; omega, by show (0 : Int) ≤ 1; omega⟩, ?_, ⟨by show (0 : Int) ≤ 0; omega, by show (0 : Int) ≤ 2054; omega⟩, ?_, ?_⟩
    · simp
    · simp
    · simp
  have e1 : encP l.bits ⟨sn, 0, 0, 0, [1]⟩ = (Pc.bytes ⟨sn, 0, 0, 0, [1]⟩, 0) := by unfold encP; rw [if_pos hq]
  have p0 : ∀ n : Int, 0 ≤ n → n ≤ 6 → way l.bits 0 n = n := fun n h0 h6 => by
    unfold way
    rcases hp with e | e | e | e | e <;> rw [e] <;> omega
  have hn : newRc l = (⟨l, 0, 0, 0, -1, 0, 0, false, []⟩, 0) := by unfold newRc; rw [if_pos h]
  have hok : (⟨l, 0, 0, 0, -1, 0, 0, false, []⟩ : Rc).okB = true := by
    exact new_ok h (f := 0) (by unfold snOk; rcases hp with e | e | e | e | e <;> rw [e] <;> omega)
  have hh : (16 : Int) ≤ (2 : Int) ^ (l.bits - 1).toNat := by
    obtain ⟨h1, h2⟩ := hb
    rcases (show l.bits = 5 ∨ l.bits = 6 ∨ l.bits = 7 ∨ l.bits = 8 ∨ l.bits = 9 by omega) with e | e | e | e | e <;> rw [e] <;> decide
  rw [e1]
  refine ⟨rfl, ?_⟩
  rw [hn]
  unfold recS
  rw [if_neg (by rw [hok]; decide)]
  dsimp only
  rw [decP_bytesP hq, if_neg (by simp)]
  dsimp only
  have hr : refusedS ⟨l, 0, 0, 0, -1, 0, 0, false, []⟩ ⟨sn, 0, 0, 0, [1]⟩ = 0 := by
    unfold refusedS Rc.place
    dsimp only
    rw [p0 sn (by omega) (by omega), if_neg (by omega)]
    rfl
  have ha : atP ⟨l, 0, 0, 0, -1, 0, 0, false, []⟩ sn = 0 := rfl
  have hi : insS ⟨l, 0, 0, 0, -1, 0, 0, false, []⟩ ⟨sn, 0, 0, 0, [1]⟩ = [newPa sn] := rfl
  have hm : mergedS ⟨l, 0, 0, 0, -1, 0, 0, false, []⟩ ⟨sn, 0, 0, 0, [1]⟩ = ⟨sn, false, 1, [1], [⟨sn, 0, 1⟩]⟩ := rfl
  have hc : compB ⟨sn, false, 1, [1], [⟨sn, 0, 1⟩]⟩ = true := rfl
  have hU : unitS ⟨l, 0, 0, 0, -1, 0, 0, false, []⟩ ⟨sn, 0, 0, 0, [1]⟩ = [1] := by
    unfold unitS; rw [hm, if_pos hc]
  have hput : putP ⟨l, 0, 0, 0, -1, 0, 0, false, []⟩ ⟨sn, 0, 0, 0, [1]⟩ = ⟨l, 0, sn + 1, 0, -1, 0, 0, false, [donePa sn]⟩ := by
    unfold putP
    rw [hm, if_pos hc, hi]
    unfold Rc.place Rc.behind
    dsimp only
    rw [p0 sn (by omega) (by omega), p0 0 (by omega) (by omega), if_pos (by omega)]
    have : (sn + 1) % 2 ^ l.bits.toNat = sn + 1 := by rcases hp with e | e | e | e | e <;> rw [e] <;> omega
    rw [this]; rfl
  have hadv : advS ⟨l, 0, sn + 1, 0, -1, 0, 0, false, [donePa sn]⟩ = ⟨l, 0, sn + 1, 0, -1, 0, 0, false, [donePa sn]⟩ := by
    unfold advS adv1
    have : dropS l.bits 0 [donePa sn] = (0, [donePa sn]) := by
      unfold dropS; rw [if_neg (by rintro ⟨h1, _⟩; exact absurd h1 (by show ¬ sn = 0; omega))]
    dsimp only
    rw [this]
    unfold adv2 Rc.place
    dsimp only
    rw [p0 0 (by omega) (by omega), p0 (sn + 1) (by omega) (by omega), if_neg (by omega)]
  have hst : startR ⟨l, 0, sn + 1, 0, -1, 0, 0, false, [donePa sn]⟩ = wR l sn 0 l.wait false := by
    unfold startR start1
    dsimp only
    rw [if_neg (by rintro ⟨h1, _⟩; exact h1 rfl)]
    unfold start2
    dsimp only
    rw [if_pos ⟨rfl, by omega⟩]; rfl
  rw [hr, hput, hadv, hst, hU, if_neg (by simp)]
  unfold pollR
  rw [if_neg (by show ¬ (0 : Int) = 1; omega)]
theorem wR_tick (h : lkOk l) (hs : 1 ≤ sn ∧ sn ≤ 5) (hu : u = 0 ∨ u = sn + 1) (hl : 1 ≤ left ∧ left ≤ l.wait) : tickRc (wR l sn u left false) = (if left = 1 then wR l sn (sn + 1) l.wait true else wR l sn u (left - 1) false, 0) := by
  have hb : bitsOk l.bits := h.1
  have hp := pow_bits hb
  have p0 : ∀ n : Int, 0 ≤ n → n ≤ 6 → way l.bits 0 n = n := fun n h0 h6 => by
    unfold way
    rcases hp with e | e | e | e | e <;> rw [e] <;> omega
  unfold tickRc
  rw [if_neg (by rw [wR_ok h hs hu hl]; decide)]
  have e0 : ({ tick1 (wR l sn u left false) with left := (wR l sn u left false).left - 1 } : Rc) = wR l sn u (left - 1) false := rfl
  rw [e0, if_neg (by show ¬ left = 0; omega)]
  refine congrArg (·, (0 : Int)) ?_
  unfold tick2
  by_cases c : left = 1
  · rw [if_neg (by show ¬ left - 1 > 0; omega), if_pos c]
    have e1 : (if (wR l sn u (left - 1) false).place (wR l sn u (left - 1) false).mark > (wR l sn u (left - 1) false).place (wR l sn u (left - 1) false).upto then (wR l sn u (left - 1) false).mark else (wR l sn u (left - 1) false).upto) = sn + 1 := by
      unfold wR Rc.place
      dsimp only
      split
      · rfl
      · rcases hu with rfl | rfl
        · rw [p0 (sn + 1) (by omega) (by omega), p0 0 (by omega) (by omega)] at *; omega
        · rfl
    rw [e1]
    unfold wR startR start1
    dsimp only
    rw [if_neg (by rintro ⟨h1, _⟩; exact h1 rfl)]
    unfold start2
    dsimp only
    rw [if_pos ⟨rfl, by omega⟩]
  · rw [if_pos (by show left - 1 > 0; omega), if_neg c]
theorem wR_place (h : lkOk l) (hs : 1 ≤ sn ∧ sn ≤ 5) : (wR l sn u left due).place (sn + 1) = sn + 1 := by
  show way l.bits 0 (sn + 1) = sn + 1
  unfold way
  rcases pow_bits h.1 with e | e | e | e | e <;> rw [e] <;> omega
theorem wR_stat (h : lkOk l) (hs : 1 ≤ sn ∧ sn ≤ 5) (hl : 1 ≤ left ∧ left ≤ l.wait) : (statR (wR l sn (sn + 1) left due)).2 = 0 ∧ ((statR (wR l sn (sn + 1) left due)).1.miss.length : Int) = sn ∧ ∃ r t, (statR (wR l sn (sn + 1) left due)).1.miss = r :: t ∧ r.sn = 0 := by
  have hb : bitsOk l.bits := h.1
  have hp := pow_bits hb
  have p0 : ∀ n : Int, 0 ≤ n → n ≤ 6 → way l.bits 0 n = n := fun n h0 h6 => by
    unfold way
    rcases hp with e | e | e | e | e <;> rw [e] <;> omega
  have q0 : ∀ n : Int, 0 ≤ n → n ≤ 6 → n % 2 ^ l.bits.toNat = n := fun n h0 h6 => by
    rcases hp with e | e | e | e | e <;> rw [e] <;> omega
  unfold statR
  rw [if_neg (by rw [wR_ok h hs (.inr rfl) hl]; decide)]
  have e1 : (wR l sn (sn + 1) left due).place (wR l sn (sn + 1) left due).upto = sn + 1 := p0 (sn + 1) (by omega) (by omega)
  have e2 : (wR l sn (sn + 1) left due).first = 0 := rfl
  rw [e1, e2]
  have hM : ∀ n : Int, n ≠ sn → missP (wR l sn (sn + 1) left due) n = [⟨n, 0, 0⟩] := fun n hn => missP_none fun x hx => by
    obtain rfl : x = donePa sn := by simpa [wR] using hx
    exact fun e => hn e.symm
  have hD : missP (wR l sn (sn + 1) left due) sn = [] := missP_some (k := 0) (by show 0 < 1; omega) rfl fun j hj hj0 => by omega
  have hB : ∀ n : Int, 0 ≤ n → n ≤ 5 → (wR l sn (sn + 1) left due).behind n = n + 1 := fun n h0 h5 => by
    unfold Rc.behind wR; dsimp only; exact q0 _ (by omega) (by omega)
  have hS : ∀ (k : Nat) (n : Int) (O : List Rg), 0 ≤ n → n + k = sn → O.length + k ≤ 20 → (statS (wR l sn (sn + 1) left due) (k + 1) n O).miss.length = O.length + k ∧ ∃ T, (statS (wR l sn (sn + 1) left due) (k + 1) n O).miss = O ++ T ∧ (1 ≤ k → ∃ T', T = ⟨n, 0, 0⟩ :: T') := by
    intro k
    induction k with
    | zero =>
      intro n O h0 hn hO
      obtain rfl : n = sn := by omega
      unfold statS
      rw [hD, if_neg (by simp; omega)]
      unfold statS
      exact ⟨by simp, [], rfl, fun h => absurd h (by omega)⟩
    | succ k ih =>
      intro n O h0 hn hO
      have hl1 : (O ++ [(⟨n, 0, 0⟩ : Rg)]).length = O.length + 1 := by simp
      obtain ⟨f1, T, f2, _⟩ := ih (n + 1) (O ++ [⟨n, 0, 0⟩]) (by omega) (by omega) (by omega)
      have e : statS (wR l sn (sn + 1) left due) (k + 1 + 1) n O = statS (wR l sn (sn + 1) left due) (k + 1) (n + 1) (O ++ [⟨n, 0, 0⟩]) := by
        rw [statS, hM n (by omega), if_neg (by simp; omega), hB n h0 (by omega)]
      rw [e]
      refine ⟨by rw [f1, hl1]; omega, [⟨n, 0, 0⟩] ++ T, by rw [f2, List.append_assoc], fun _ => ⟨T, rfl⟩⟩
  obtain ⟨k, hk⟩ : ∃ k : Nat, sn = k := ⟨sn.toNat, by omega⟩
  have e3 : (sn + 1).toNat = k + 1 := by omega
  rw [e3]
  obtain ⟨f1, T, f2, f3⟩ := hS k 0 [] (Int.le_refl _) (by omega) (by simp; omega)
  obtain ⟨T', rfl⟩ := f3 (by omega)
  refine ⟨rfl, by dsimp only; rw [f1]; simp; omega, ⟨0, 0, 0⟩, T', by dsimp only; rw [f2]; rfl, rfl⟩
end
end Go.Sx
/- Chapter 21, plain: a receiver that gets pieces of units; no program in sight. -/
namespace Go.Sx
/-- what a partial holds is of the unit -/
def Agr (x : Pa) (u : List Int) : Prop := (x.len = -1 ∨ x.len = u.length) ∧ (∀ r ∈ x.come, r.t ≤ u.length) ∧ ∀ k : Nat, covB k x.come = true → x.data.getD k 0 = u.getD k 0
/-- the partials, from a number on, are of the units, and what is done has come -/
structure Rel (b : Int) (U : Nat → List Int) (f : Int) (first : Nat) (L : List Pa) (G : Nat → Bool) : Prop where
  pts : ∀ x ∈ L, snOk b x.sn ∧ x.done = G (first + (way b f x.sn).toNat) ∧ (x.done = false → Agr x (U (first + (way b f x.sn).toNat)))
  all : ∀ j : Nat, G (first + j) = true → ∃ x ∈ L, way b f x.sn = j
theorem way_zero {b f n : Int} (hb : bitsOk b) (hf : snOk b f) (hn : snOk b n) (h : way b f n = 0) : n = f := by
  unfold way snOk at *
  rcases pow_bits hb with e | e | e | e | e <;> rw [e] at hn hf h <;> omega
theorem way_next {b f n : Int} (hb : bitsOk b) (hf : snOk b f) (hn : snOk b n) (h : 1 ≤ way b f n) : way b ((f + 1) % 2 ^ b.toNat) n = way b f n - 1 := by
  unfold way snOk at *
  rcases pow_bits hb with e | e | e | e | e <;> rw [e] at hn hf h ⊢ <;> omega
theorem next_sn {b f : Int} (hb : bitsOk b) : snOk b ((f + 1) % 2 ^ b.toNat) := by
  unfold snOk
  rcases pow_bits hb with e | e | e | e | e <;> rw [e] <;> omega
theorem rel_drop {b : Int} {U : Nat → List Int} {G : Nat → Bool} (hb : bitsOk b) : ∀ (d : Nat) (f : Int) (first : Nat) (L : List Pa), Rel b U f first L G → snOk b f → (L.Pairwise fun x y => way b f x.sn < way b f y.sn) →
    (∀ k, k < d → G (first + k) = true) → G (first + d) = false → (dropS b f L).1 = (f + d) % 2 ^ b.toNat ∧ Rel b U ((f + d) % 2 ^ b.toNat) (first + d) (dropS b f L).2 G
  | 0, f, first, L, h, hf, hs, _, hg => by
    have e : dropS b f L = (f, L) := by
      cases L with
      | nil => rfl
      | cons p l =>
        rw [dropS, if_neg]
        rintro ⟨h1, h2⟩
        have h3 := (h.pts p (by simp)).2.1
        have h4 : way b f p.sn = 0 := by rw [h1]; unfold way; rw [Int.sub_self, Int.zero_emod]
        rw [h4] at h3
        rw [h2] at h3
        exact Bool.noConfusion (h3.trans hg)
    have e2 : (f + ((0 : Nat) : Int)) % 2 ^ b.toNat = f := by
      unfold snOk at hf
      rcases pow_bits hb with e | e | e | e | e <;> rw [e] at hf ⊢ <;> omega
    rw [e, e2]
    exact ⟨rfl, h⟩
  | d + 1, f, first, L, h, hf, hs, hk, hg => by
    have h0 := hk 0 (by omega)
    obtain ⟨x, hx, hw⟩ := h.all 0 h0
    cases L with
    | nil => simp at hx
    | cons p l =>
      rw [List.pairwise_cons] at hs
      obtain ⟨hp1, hp2, hp3⟩ := h.pts p (by simp)
      have hwp : way b f p.sn = 0 := by
        rcases List.mem_cons.1 hx with rfl | hx
        · exact hw
        · have := hs.1 x hx
          have := (way_range b f p.sn).1
          omega
      have hpf := way_zero hb hf hp1 hwp
      have hpd : p.done = true := by rw [hp2, hwp]; exact h0
      have hl : ∀ y ∈ l, way b ((f + 1) % 2 ^ b.toNat) y.sn = way b f y.sn - 1 ∧ 1 ≤ way b f y.sn := fun y hy => by
        have h1 := hs.1 y hy
        exact ⟨way_next hb hf (h.pts y (by simp [hy])).1 (by omega), by omega⟩
      have hR : Rel b U ((f + 1) % 2 ^ b.toNat) (first + 1) l G := by
        refine ⟨fun y hy => ?_, fun j hj => ?_⟩
        · obtain ⟨q1, q2, q3⟩ := h.pts y (by simp [hy])
          obtain ⟨e1, e2⟩ := hl y hy
          have e3 : first + 1 + (way b ((f + 1) % 2 ^ b.toNat) y.sn).toNat = first + (way b f y.sn).toNat := by omega
          rw [e3]
          exact ⟨q1, q2, q3⟩
        · obtain ⟨y, hy, e⟩ := h.all (j + 1) (by rw [← hj]; congr 1; omega)
          rcases List.mem_cons.1 hy with rfl | hy
          · omega
          · exact ⟨y, hy, by rw [(hl y hy).1]; omega⟩
      obtain ⟨r1, r2⟩ := rel_drop hb d _ _ l hR (next_sn hb) (hs.2.imp_of_mem fun {x y} hx hy hxy => by rw [(hl x hx).1, (hl y hy).1]; omega) (fun k hkd => by
        have := hk (k + 1) (by omega)
        rw [← this]; congr 1; omega) (by rw [← hg]; congr 1; omega)
      have e4 : dropS b f (p :: l) = dropS b ((f + 1) % 2 ^ b.toNat) l := by rw [dropS, if_pos ⟨hpf, hpd⟩]
      have e5 : ((f + 1) % 2 ^ b.toNat + (d : Int)) % 2 ^ b.toNat = (f + ((d + 1 : Nat) : Int)) % 2 ^ b.toNat := by
        rcases pow_bits hb with e | e | e | e | e <;> rw [e] <;> omega
      rw [e4, r1, e5]
      rw [e5, show first + 1 + d = first + (d + 1) by omega] at r2
      exact ⟨rfl, r2⟩
/-- a piece of a unit -/
structure Piece (q : Pc) (u : List Int) : Prop where
  pos : 0 ≤ q.off
  one : 1 ≤ q.data.length
  fit : q.en ≤ u.length
  byt : ∀ k : Nat, q.off ≤ k → (k : Int) < q.en → q.data.getD (k - q.off.toNat) 0 = u.getD k 0
  fin : ends q.part = true ↔ q.en = u.length
theorem agr_new (n : Int) (u : List Int) : Agr (newPa n) u := ⟨.inl rfl, fun r hr => by simp [newPa] at hr, fun k h => by simp [newPa, covB] at h⟩
theorem agr_contra {x : Pa} {q : Pc} {u : List Int} (ho : Open x) (ha : Agr x u) (hq : Piece q u) : contraB x q = false := by
  obtain ⟨h1, h2, h3⟩ := ha
  obtain ⟨-, -, ho3, -, -, -⟩ := ho
  have he : endT x.come ≤ u.length := by
    by_cases c : x.come = []
    · rw [c]; show (0 : Int) ≤ _; omega
    · obtain ⟨r, hr, e⟩ := (norm_end (q := 0) ho3).2 c
      have := h2 r hr
      unfold endT; omega
  have hf := hq.fit
  unfold contraB
  by_cases c : ends q.part = true
  · rw [if_pos c, decide_eq_false_iff_not]
    have := hq.fin.1 c
    omega
  · rw [if_neg c, decide_eq_false_iff_not]
    have : q.en ≠ u.length := fun h => c (hq.fin.2 h)
    omega
theorem agr_merge {x : Pa} {q : Pc} {u : List Int} (ho : Open x) (ha : Agr x u) (hq : Piece q u) : Agr (mergeS x q) u ∧ (compB (mergeS x q) = true → (mergeS x q).data = u) := by
  obtain ⟨h1, h2, h3⟩ := ha
  obtain ⟨ho1, ho2, ho3, ho4, ho5, ho6⟩ := ho
  have hf := hq.fit
  have hp := hq.pos
  have hone := hq.one
  have hen : q.en = q.off + q.data.length := rfl
  have hlt : q.off < q.en := by omega
  have hcov : ∀ k : Int, covB k (mergeS x q).come = (decide (q.off ≤ k ∧ k < q.en) || covB k x.come) := fun k => union_cov q.sn k x.come q.off q.en hlt fun r hr => (norm_lt _ _ ho3 r hr).2
  have hl : (mergeS x q).data.length = max x.data.length (q.off.toNat + q.data.length) := layD_len _ _ _
  have hend : endT (mergeS x q).come = max (endT x.come) q.en := end_union ho3 hp hlt
  have hlen : (mergeS x q).len = if ends q.part = true then q.en else x.len := rfl
  have hA : Agr (mergeS x q) u := by
    refine ⟨?_, union_le q.sn x.come q.off q.en _ h2 hf, fun k hk => ?_⟩
    · rw [hlen]
      by_cases c : ends q.part = true
      · rw [if_pos c]; exact .inr (hq.fin.1 c)
      · rw [if_neg c]; exact h1
    · have hd : (mergeS x q).data.getD k 0 = _ := layD_get x.data q.off.toNat q.data k
      rw [hd]
      by_cases c : q.off.toNat ≤ k ∧ k < q.off.toNat + q.data.length
      · rw [if_pos c]; exact hq.byt k (by omega) (by omega)
      · rw [if_neg c]
        rw [hcov, decide_eq_false (by omega), Bool.false_or] at hk
        exact h3 k hk
  refine ⟨hA, fun hc => ?_⟩
  unfold compB at hc
  cases hcome : (mergeS x q).come with
  | nil => rw [hcome] at hc; cases hc
  | cons r rs =>
    cases rs with
    | cons r2 rs => rw [hcome] at hc; cases hc
    | nil =>
      rw [hcome] at hc
      have hc := of_decide_eq_true hc
      have hL : (mergeS x q).len = u.length := by
        rcases hA.1 with h | h
        · omega
        · exact h
      have hE : endT (mergeS x q).come = u.length := by rw [hcome]; show r.t = _; omega
      have hdl : ((mergeS x q).data.length : Int) = u.length := by omega
      apply List.ext_getElem (by omega)
      intro k k1 k2
      have := hA.2.2 k (by rw [hcome]; simp [covB]; omega)
      rw [getD_at2 k1, getD_at2 k2] at this
      exact this
/-- what has come, with one number more -/
def setG (G : Nat → Bool) (c : Nat) : Nat → Bool := fun k => if k = c then true else G k
theorem rel_put {s : Rc} {U : Nat → List Int} {G : Nat → Bool} {first j : Nat} {q : Pc} (hc : Core s) (hR : Rel s.lk.bits U s.first first s.parts G) (hq : q.ok s.lk.bits) (hj : s.place q.sn = j) (hh : s.place q.sn < 2 ^ (s.lk.bits - 1).toNat) (hP : Piece q (U (first + j))) :
    (refusedS s q = 0 ∨ refusedS s q = 12) ∧ (refusedS s q = 0 → G (first + j) = false ∧ ((unitS s q = [] ∧ Rel s.lk.bits U s.first first (putP s q).parts G) ∨ (unitS s q = U (first + j) ∧ Rel s.lk.bits U s.first first (putP s q).parts (setG G (first + j))))) := by
  have hsn : snOk s.lk.bits q.sn := hq.2.1
  have hb := hc.lk.1
  have hold' : ¬ s.place q.sn ≥ 2 ^ (s.lk.bits - 1).toNat := by omega
  obtain ⟨hA, hsp⟩ := at_split hc hsn
  obtain ⟨A, hAe⟩ : ∃ A, A = s.parts.take (atP s q.sn) := ⟨_, rfl⟩
  have hpl : s.parts = A ++ s.parts.drop (atP s q.sn) := by rw [hAe, List.take_append_drop]
  have hkl : atP s q.sn ≤ s.parts.length := by
    have := congrArg List.length (List.takeWhile_append_dropWhile (p := fun p' : Pa => decide (s.place p'.sn < s.place q.sn)) (l := s.parts))
    rw [List.length_append] at this
    show (s.parts.takeWhile _).length ≤ _
    omega
  have hAl : A.length = atP s q.sn := by rw [hAe, List.length_take]; omega
  obtain ⟨y', hy'⟩ : ∃ y', y' = if compB (mergedS s q) then donePa q.sn else mergedS s q := ⟨_, rfl⟩
  have hput : (putP s q).parts = (insS s q).set (atP s q.sn) y' := by rw [hy']; rfl
  have hAm : ∀ x ∈ A, x ∈ s.parts ∧ s.place x.sn < s.place q.sn := fun x hx => by rw [hAe] at hx; exact ⟨List.mem_of_mem_take hx, hA x hx⟩
  have hway : ∀ n, way s.lk.bits s.first n = s.place n := fun n => rfl

  have fin : ∀ (x : Pa) (B : List Pa), Open x → x.sn = q.sn → Agr x (U (first + j)) → mergedS s q = mergeS x q → (putP s q).parts = A ++ y' :: B → (∀ z ∈ B, z ∈ s.parts ∧ s.place q.sn < s.place z.sn) →
      (∀ z ∈ s.parts, z ∈ A ∨ z ∈ B ∨ z.sn = q.sn) → G (first + j) = false →
      ((unitS s q = [] ∧ Rel s.lk.bits U s.first first (putP s q).parts G) ∨ (unitS s q = U (first + j) ∧ Rel s.lk.bits U s.first first (putP s q).parts (setG G (first + j)))) := fun x B ho hxs hx hm hp hB hsplit hG => by
    obtain ⟨m1, m2⟩ := agr_merge ho hx hP
    have hyo : (mergeS x q).done = false := ho.1
    have hys : (mergeS x q).sn = q.sn := hxs
    cases hcm : compB (mergedS s q) with
    | false =>
      left
      refine ⟨by unfold unitS; rw [hcm]; rfl, ?_⟩
      rw [hcm] at hy'
      have hy2 : y' = mergeS x q := by rw [hy', hm]; rfl
      rw [hp]
      refine ⟨fun z hz => ?_, fun i hi => ?_⟩
      · rcases List.mem_append.1 hz with hz | hz
        · exact hR.pts z (hAm z hz).1
        · rcases List.mem_cons.1 hz with rfl | hz
          · rw [hy2, hys, hyo, hway, hj, Int.toNat_natCast]
            exact ⟨hsn, hG.symm, fun _ => m1⟩
          · exact hR.pts z (hB z hz).1
      · obtain ⟨z, hz, e⟩ := hR.all i hi
        rcases hsplit z hz with h | h | h
        · exact ⟨z, by simp [h], e⟩
        · exact ⟨z, by simp [h], e⟩
        · exact ⟨y', by simp, by rw [hy2, hys, ← h]; exact e⟩
    | true =>
      right
      rw [hcm] at hy'
      have hy2 : y' = donePa q.sn := hy'
      refine ⟨by unfold unitS; rw [hcm, if_pos rfl, hm]; exact m2 (by rw [← hm]; exact hcm), ?_⟩
      rw [hp]
      have hne : ∀ z, s.place z ≠ s.place q.sn → setG G (first + j) (first + (way s.lk.bits s.first z).toNat) = G (first + (way s.lk.bits s.first z).toNat) := fun z hz => by
        unfold setG
        have := place_ge s z
        rw [if_neg]
        rw [hway]; omega
      refine ⟨fun z hz => ?_, fun i hi => ?_⟩
      · rcases List.mem_append.1 hz with hz | hz
        · rw [hne z.sn (by have := (hAm z hz).2; omega)]
          exact hR.pts z (hAm z hz).1
        · rcases List.mem_cons.1 hz with rfl | hz
          · rw [hy2]
            refine ⟨hsn, ?_, fun h => by cases h⟩
            show true = _
            show true = setG G (first + j) (first + (s.place q.sn).toNat)
            rw [hj, Int.toNat_natCast]
            unfold setG; rw [if_pos rfl]
          · rw [hne z.sn (by have := (hB z hz).2; omega)]
            exact hR.pts z (hB z hz).1
      · by_cases hij : i = j
        · exact ⟨y', by simp, by rw [hy2, hij]; exact hj⟩
        · have hi2 : G (first + i) = true := by
            unfold setG at hi
            rw [if_neg (by omega)] at hi
            exact hi
          obtain ⟨z, hz, e⟩ := hR.all i hi2
          rcases hsplit z hz with h | h | h
          · exact ⟨z, by simp [h], e⟩
          · exact ⟨z, by simp [h], e⟩
          · rw [h, hway, hj] at e
            omega
  rcases hsp with ⟨hf, hB⟩ | ⟨y, B, hf, hd, hg, hysn, hB⟩
  · have hi : insS s q = A ++ newPa q.sn :: s.parts.drop (atP s q.sn) := by rw [insS, if_neg (by rw [hf]; decide), hAe]
    have hno : ∀ z ∈ s.parts, s.place z.sn ≠ s.place q.sn := fun z hz => by
      rw [hpl] at hz
      rcases List.mem_append.1 hz with hz | hz
      · have := (hAm z hz).2; omega
      · have := hB z hz; omega
    have hr0 : refusedS s q = 0 := by
      unfold refusedS
      rw [if_neg hold']
      unfold foundB at hf
      split
      · rename_i x hx
        rw [hx] at hf
        rw [if_neg (of_decide_eq_false hf)]
      · rfl
    refine ⟨.inl hr0, fun _ => ?_⟩
    have hG : G (first + j) = false := by
      cases hGj : G (first + j) with
      | false => rfl
      | true =>
        obtain ⟨z, hz, e⟩ := hR.all j hGj
        exact absurd (by rw [hj]; exact e) (hno z hz)
    refine ⟨hG, fin (newPa q.sn) (s.parts.drop (atP s q.sn)) (open_new _) rfl (agr_new _ _) ?_ ?_ (fun z hz => ⟨List.mem_of_mem_drop hz, hB z hz⟩) (fun z hz => ?_) hG⟩
    · unfold mergedS; rw [hi, List.getElem?_append_right (by omega), hAl, Nat.sub_self]; rfl
    · rw [hput, hi, List.set_append_right _ _ (by omega), hAl, Nat.sub_self]; rfl
    · rw [hpl] at hz
      rcases List.mem_append.1 hz with hz | hz
      · exact .inl hz
      · exact .inr (.inl hz)
  · have hi : insS s q = A ++ y :: B := by rw [insS, if_pos hf, hpl, hd]
    have hym : y ∈ s.parts := List.mem_of_getElem? hg
    obtain ⟨q1, q2, q3⟩ := hR.pts y hym
    rw [hway, hysn, hj, Int.toNat_natCast] at q2 q3
    have hr : refusedS s q = if y.done = true then 12 else if contraB y q then 4 else if hasB y q then 12 else 0 := by
      unfold refusedS
      rw [if_neg hold', hg]
      dsimp only
      rw [if_pos hysn]
    cases hyd : y.done with
    | true =>
      rw [hyd, if_pos rfl] at hr
      rw [hr]
      exact ⟨.inr rfl, fun h => by cases h⟩
    | false =>
      have ho := open_of hyd (hc.all y hym).1
      have ha := q3 hyd
      rw [hyd, if_neg (by decide), agr_contra ho ha hP, if_neg (by decide)] at hr
      have hG : G (first + j) = false := by rw [← q2]; exact hyd
      refine ⟨by rw [hr]; split <;> simp, fun _ => ⟨hG, fin y B ho hysn ha ?_ ?_ (fun z hz => ⟨List.mem_of_mem_drop (i := atP s q.sn) (by rw [hd]; simp [hz]), hB z hz⟩) (fun z hz => ?_) hG⟩⟩
      · unfold mergedS; rw [hi, List.getElem?_append_right (by omega), hAl, Nat.sub_self]; rfl
      · rw [hput, hi, List.set_append_right _ _ (by omega), hAl, Nat.sub_self]; rfl
      · rw [hpl, hd] at hz
        rcases List.mem_append.1 hz with hz | hz
        · exact .inl hz
        · rcases List.mem_cons.1 hz with rfl | hz
          · exact .inr (.inr hysn)
          · exact .inr (.inl hz)
theorem rel_new (b : Int) (U : Nat → List Int) : Rel b U 0 0 [] fun _ => false := ⟨fun x hx => by simp at hx, fun j h => by cases h⟩
theorem rel_step {s : Rc} {U : Nat → List Int} {G : Nat → Bool} {first j : Nat} {q : Pc} (hok : s.okB = true) (hR : Rel s.lk.bits U s.first first s.parts G) (hG0 : G first = false) (hq : q.ok s.lk.bits) (hj : s.place q.sn = j) (hh : s.place q.sn < 2 ^ (s.lk.bits - 1).toNat)
    (hP : Piece q (U (first + j))) (hpo : q.poll = 0) :
    ((recS s q.bytes).2.2 = 0 ∨ (recS s q.bytes).2.2 = 12) ∧ ((recS s q.bytes).2.2 ≠ 0 → (recS s q.bytes).2.1 = []) ∧ (recS s q.bytes).1.lk = s.lk ∧ ((recS s q.bytes).2.1 ≠ [] → G (first + j) = false ∧ (recS s q.bytes).2.1 = U (first + j)) ∧
    ∀ G' : Nat → Bool, G' = (if (recS s q.bytes).2.1 ≠ [] then setG G (first + j) else G) → ∀ d : Nat, (∀ k, k < d → G' (first + k) = true) → G' (first + d) = false →
      (recS s q.bytes).1.first = (s.first + d) % 2 ^ s.lk.bits.toNat ∧ Rel s.lk.bits U (recS s q.bytes).1.first (first + d) (recS s q.bytes).1.parts G' := by
  obtain ⟨hc, hu, hf, hm⟩ := ok_iff.1 hok
  have hb := hc.lk.1
  obtain ⟨h1, h2⟩ := rel_put hc hR hq hj hh hP
  have hne : U (first + j) ≠ [] := by
    have a1 := hP.one
    have a2 := hP.fit
    have a3 : q.en = q.off + q.data.length := rfl
    have a4 := hP.pos
    intro e
    rw [e] at a2
    simp only [List.length_nil] at a2
    omega
  have hpoll : ∀ t : Rc, pollR t q = t := fun t => by unfold pollR; rw [if_neg (by omega)]
  have hrec : recS s q.bytes = if refusedS s q ≠ 0 then (s, [], refusedS s q) else (startR (advS (putP s q)), unitS s q, 0) := by
    unfold recS
    rw [if_neg (by rw [hok]; decide)]
    dsimp only
    rw [decP_bytesP hq, if_neg (by simp)]
    dsimp only
    rw [hpoll, hpoll]
  by_cases c : refusedS s q = 0
  · rw [if_neg (by omega)] at hrec
    rw [hrec]
    obtain ⟨hG, hu⟩ := h2 c
    obtain ⟨e1, e2, e3, -⟩ := startR_same (advS (putP s q))
    have hcp := put_core hc hq c
    have hfst : (advS (putP s q)).first = (dropS s.lk.bits s.first (putP s q).parts).1 := by
      unfold advS adv2; split <;> rfl
    have hprt : (advS (putP s q)).parts = (dropS s.lk.bits s.first (putP s q).parts).2 := advS_parts _
    refine ⟨.inl rfl, fun h => absurd rfl h, ?_, fun h => ?_, fun G' hG' d hd1 hd2 => ?_⟩
    · show (startR _).lk = _
      rw [e2]; unfold advS adv2; split <;> rfl
    · rcases hu with ⟨hu, _⟩ | ⟨hu, _⟩
      · exact absurd hu h
      · exact ⟨hG, hu⟩
    · have hR' : Rel s.lk.bits U s.first first (putP s q).parts G' := by
        rcases hu with ⟨hu, hr⟩ | ⟨hu, hr⟩
        · rw [hG', if_neg (fun h => h hu)]; exact hr
        · rw [hG', if_pos (by show unitS s q ≠ []; rw [hu]; exact hne)]; exact hr
      obtain ⟨r1, r2⟩ := rel_drop hb d s.first first (putP s q).parts hR' hc.f hcp.asc hd1 hd2
      show (startR _).first = _ ∧ Rel _ _ (startR _).first _ (startR _).parts _
      rw [e1, e3, hfst, hprt, r1]
      exact ⟨rfl, r2⟩
  · rw [if_pos c] at hrec
    rw [hrec]
    refine ⟨h1, fun _ => rfl, rfl, fun h => absurd rfl h, fun G' hG' d hd1 hd2 => ?_⟩
    rw [if_neg (fun h => h rfl)] at hG'
    subst hG'
    have hd0 : d = 0 := by
      rcases Nat.eq_zero_or_pos d with h | h
      · exact h
      · have := hd1 0 h
        exact Bool.noConfusion (hG0.symm.trans this)
    subst hd0
    have hff := hc.f
    refine ⟨?_, hR⟩
    show s.first = (s.first + 0) % _
    unfold snOk at hff
    rcases pow_bits hb with e | e | e | e | e <;> rw [e] at hff ⊢ <;> omega
theorem rel_miss {s : Rc} {U : Nat → List Int} {G : Nat → Bool} {first : Nat} (hc : Core s) (hR : Rel s.lk.bits U s.first first s.parts G) {n : Int} (hn : snOk s.lk.bits n) : ∀ r ∈ missP s n, G (first + (s.place r.sn).toNat) = false := by
  intro r hr
  have h1 := (miss_chP hc hn).2 r hr
  rw [h1]
  cases hG : G (first + (s.place n).toNat) with
  | false => rfl
  | true =>
    obtain ⟨x, hx, e⟩ := hR.all _ hG
    have hp := place_ge s n
    have hxn : x.sn = n := place_inj hc.lk.1 (hR.pts x hx).1 hn (by
      have e : s.place x.sn = ((s.place n).toNat : Int) := e
      omega)
    unfold missP at hr
    rcases idx_or (fun p : Pa => decide (p.sn = n)) s.parts with ⟨_, h⟩ | ⟨k, hk, e, h2⟩
    · exact absurd hxn (of_decide_eq_false (h x hx))
    · rw [e, if_neg (by omega), Int.toNat_natCast, List.getElem?_eq_getElem hk] at hr
      have h3 := (hR.pts _ (List.getElem_mem hk)).2.1
      rw [of_decide_eq_true h2] at h3
      have h3 : s.parts[k].done = true := h3.trans hG
      unfold missO at hr
      dsimp only at hr
      rw [if_pos h3] at hr
      simp at hr
theorem rel_stat {s : Rc} {U : Nat → List Int} {G : Nat → Bool} {first : Nat} (hc : Core s) (hR : Rel s.lk.bits U s.first first s.parts G) : ∀ (k : Nat) (n : Int) (O : List Rg), snOk s.lk.bits n → (∀ r ∈ O, G (first + (s.place r.sn).toNat) = false) → ∀ r ∈ (statS s k n O).miss, G (first + (s.place r.sn).toNat) = false
  | 0, _, _, _, hO => hO
  | k + 1, n, O, hn, hO => by
    unfold statS
    split
    · exact hO
    · refine rel_stat hc hR k _ _ (behind_ok hc.lk.1 n) fun r hr => ?_
      rcases List.mem_append.1 hr with hr | hr
      · exact hO r hr
      · exact rel_miss hc hR hn r hr
theorem rel_rep {s : Rc} {U : Nat → List Int} {G : Nat → Bool} {first : Nat} (hok : s.okB = true) (hR : Rel s.lk.bits U s.first first s.parts G) : (statR s).2 = 0 ∧ ∀ r ∈ (statR s).1.miss, G (first + (s.place r.sn).toNat) = false := by
  obtain ⟨hc, -, -, -⟩ := ok_iff.1 hok
  unfold statR
  rw [if_neg (by rw [hok]; decide)]
  exact ⟨rfl, rel_stat hc hR _ _ _ hc.f fun r hr => by simp at hr⟩
end Go.Sx
/- Chapter 23, plain: units cut and joined without losses; no program in sight. -/
namespace Go.Sx
def plainR' (s : Rc) : Rc := { s with due := false, upto := s.first }
theorem plain_ok {s : Rc} (h : s.okB = true) : (plainR' s).okB = true := by
  obtain ⟨hc, hu, hf, hm⟩ := ok_iff.1 h
  have hp : ∀ n, (plainR' s).place n = s.place n := fun n => rfl
  refine ok_iff.2 ⟨hc.same rfl rfl rfl hc.f hc.q rfl, ?_, hf, hm⟩
  rw [hp, hp]
  show s.place s.first ≤ s.place s.next
  rw [place_self]; exact place_ge s _
theorem headN_or (p : Int) : headN p = 2 ∨ headN p = 4 := by unfold headN; split <;> simp
theorem cut_shape {b : Int} {p : Pc} {size : Int} (hp : p.ok b) (hs : headN p.part + 1 ≤ size) : (cutP b p size).2.2 = 0 ∧ (cutP b p size).1.sn = p.sn ∧ (cutP b p size).1.poll = p.poll ∧ (cutP b p size).1.off = p.off ∧
    headN (cutP b p size).1.part + (cutP b p size).1.data.length ≤ size ∧ (ends (cutP b p size).1.part = true ↔ (ends p.part = true ∧ (cutP b p size).1.data.length = p.data.length)) ∧ (cutP b p size).1.data.length ≤ p.data.length := by
  unfold cutP
  rw [if_neg (by simpa using hp), if_neg (by omega)]
  split
  · rename_i h
    exact ⟨rfl, rfl, rfl, rfl, h, ⟨fun h => ⟨h, rfl⟩, fun h => h.1⟩, Nat.le_refl _⟩
  · rename_i h
    have hlen : ((p.data.take (size - headN p.part).toNat).length : Int) = size - headN p.part := by rw [List.length_take]; omega
    refine ⟨rfl, rfl, rfl, rfl, ?_, ?_, ?_⟩
    · show (headN (partOf (begins p.part) false) : Int) + (p.data.take (size - headN p.part).toNat).length ≤ size
      rw [hlen]
      have : headN (partOf (begins p.part) false) = headN p.part := by
        unfold begins headN partOf
        by_cases c : p.part = 0 ∨ p.part = 1
        · rw [decide_eq_true c, if_pos c]; rfl
        · rw [decide_eq_false c, if_neg c]; rfl
      rw [this]; omega
    · have : ends (partOf (begins p.part) false) = false := by
        unfold partOf; cases begins p.part <;> rfl
      show ends (partOf (begins p.part) false) = true ↔ (ends p.part = true ∧ (p.data.take (size - headN p.part).toNat).length = p.data.length)
      rw [this]
      exact ⟨fun h => Bool.noConfusion h, fun hh => by omega⟩
    · show (p.data.take (size - headN p.part).toNat).length ≤ p.data.length
      omega
/-- the partials of a receiver that has the beginning of one unit -/
def recvP (sn : Int) (s : Nat) (u : List Int) : List Pa := if s = 0 then [] else [⟨sn, false, -1, u.take s, [⟨sn, 0, s⟩]⟩]
theorem union_next (sn : Int) {s e : Int} (h0 : 0 < s) (h : s ≤ e) : unionS sn [⟨sn, 0, s⟩] s e = [⟨sn, 0, e⟩] := by
  show (if s < s then ⟨sn, 0, s⟩ :: unionS sn [] s e else if (0 : Int) > e then ⟨sn, s, e⟩ :: [⟨sn, 0, s⟩] else unionS sn [] (if (0 : Int) < s then 0 else s) (if s > e then s else e)) = _
  rw [if_neg (by omega), if_neg (by omega), if_pos h0, if_neg (by omega)]; rfl
theorem rec_one {r : Rc} {q : Pc} {u : List Int} {s n : Nat} (hok : r.okB = true) (hq : q.ok r.lk.bits) (hsn : q.sn = r.first) (hp : r.parts = recvP r.first s u) (ho : q.off = s) (hd : q.data = (u.drop s).take n) (hn : 1 ≤ n) (hsu : s + n ≤ u.length)
    (he : ends q.part = true ↔ s + n = u.length) (hpo : q.poll = 0) :
    (recS r q.bytes).2.2 = 0 ∧ (recS r q.bytes).1.lk = r.lk ∧ (recS r q.bytes).2.1 = (if s + n = u.length then u else []) ∧
    (recS r q.bytes).1.first = (if s + n = u.length then (r.first + 1) % 2 ^ r.lk.bits.toNat else r.first) ∧ (recS r q.bytes).1.parts = (if s + n = u.length then [] else recvP r.first (s + n) u) := by
  obtain ⟨hc, hu, hf, hm⟩ := ok_iff.1 hok
  have hpl : r.place q.sn = 0 := by rw [hsn]; exact place_self r
  have hhalf : (0 : Int) < 2 ^ (r.lk.bits - 1).toNat := by
    have := pow_bits1 hc.lk.1
    rcases pow_bits hc.lk.1 with e | e | e | e | e <;> rw [e] at this <;> omega
  have hdl : q.data.length = n := by rw [hd, List.length_take, List.length_drop]; omega
  have hen : q.en = ((s + n : Nat) : Int) := by show q.off + (q.data.length : Int) = _; rw [ho, hdl]; omega

  obtain ⟨m, hme⟩ : ∃ m : Pa, m = ⟨r.first, false, if ends q.part = true then ((s + n : Nat) : Int) else -1, u.take (s + n), [⟨r.first, 0, ((s + n : Nat) : Int)⟩]⟩ := ⟨_, rfl⟩
  have hat : atP r q.sn = 0 := by
    unfold atP
    rw [hpl, hp]
    unfold recvP
    split
    · rfl
    · have : decide (r.place r.first < 0) = false := by rw [place_self]; decide
      rw [List.takeWhile_cons, this]; rfl
  have hlay : ∀ d : List Int, d = u.take s → layD d s ((u.drop s).take n) = u.take (s + n) := fun d hde => by
    have hdl2 : d.length = s := by rw [hde, List.length_take]; omega
    have hnl : ((u.drop s).take n).length = n := by rw [List.length_take, List.length_drop]; omega
    have e1 : (d ++ List.replicate n (0 : Int)).take s = d := by rw [← hdl2]; simp
    have e2 : (d ++ List.replicate n (0 : Int)).drop (s + n) = [] := List.drop_of_length_le (by simp; omega)
    unfold layD
    dsimp only
    rw [hnl, hdl2, show s + n - s = n by omega, e1, e2, List.append_nil, hde]
    exact (List.take_add (l := u) (i := s) (j := n)).symm
  have key : refusedS r q = 0 ∧ mergedS r q = m ∧ (putP r q).parts = [if compB m then donePa r.first else m] := by
    by_cases h0 : s = 0
    · have hp0 : r.parts = [] := by rw [hp]; unfold recvP; rw [if_pos h0]
      have hfd : foundB r q.sn = false := by unfold foundB; rw [hp0]; rfl
      have hins : insS r q = [newPa q.sn] := by unfold insS; rw [hfd, hat, hp0]; rfl
      have hmg : mergedS r q = m := by
        unfold mergedS
        rw [hins, hat]
        show mergeS (newPa q.sn) q = m
        have hl := hlay [] (by rw [h0]; rfl)
        rw [hme]
        unfold mergeS newPa
        dsimp only
        rw [ho, Int.toNat_natCast, hd, hl, hen, hsn]
        congr 1
        subst h0
        rfl
      refine ⟨?_, hmg, ?_⟩
      · unfold refusedS
        rw [if_neg (by omega), hp0]; rfl
      · show (insS r q).set (atP r q.sn) (if compB (mergedS r q) then donePa q.sn else mergedS r q) = _
        rw [hins, hat, hmg, hsn]; rfl
    · have hp1 : r.parts = [⟨r.first, false, -1, u.take s, [⟨r.first, 0, s⟩]⟩] := by rw [hp]; unfold recvP; rw [if_neg h0]
      have hg : r.parts[atP r q.sn]? = some ⟨r.first, false, -1, u.take s, [⟨r.first, 0, s⟩]⟩ := by rw [hat, hp1]; rfl
      have hfd : foundB r q.sn = true := by unfold foundB; rw [hg]; exact decide_eq_true hsn.symm
      have hins : insS r q = r.parts := by unfold insS; rw [if_pos hfd]
      have hmg : mergedS r q = m := by
        unfold mergedS
        rw [hins, hg]
        show mergeS ⟨r.first, false, -1, u.take s, [⟨r.first, 0, s⟩]⟩ q = m
        have hl := hlay _ rfl
        rw [hme]
        unfold mergeS
        dsimp only
        rw [ho, Int.toNat_natCast, hd, hl, hen, hsn]
        rw [union_next _ (by omega) (by omega)]
      refine ⟨?_, hmg, ?_⟩
      · unfold refusedS
        rw [if_neg (by omega), hg]
        dsimp only
        rw [if_pos hsn.symm, if_neg (by decide)]
        have h1 : contraB ⟨r.first, false, -1, u.take s, [⟨r.first, 0, s⟩]⟩ q = false := by
          unfold contraB
          split
          · rw [decide_eq_false_iff_not]
            rintro (h | h)
            · exact h.1 rfl
            · rw [hen] at h
              replace h : ((s + n : Nat) : Int) < (s : Int) := h
              omega
          · rw [decide_eq_false_iff_not]
            rintro ⟨h, _⟩; exact h rfl
        have h2 : hasB ⟨r.first, false, -1, u.take s, [⟨r.first, 0, s⟩]⟩ q = false := by
          unfold hasB
          rw [Bool.and_eq_false_iff]
          left
          simp only [List.any_cons, List.any_nil, Bool.or_false]
          rw [decide_eq_false_iff_not, hen]
          omega
        rw [h1, h2]; rfl
      · show (insS r q).set (atP r q.sn) (if compB (mergedS r q) then donePa q.sn else mergedS r q) = _
        rw [hins, hat, hmg, hsn, hp1]; rfl
  obtain ⟨k1, k2, k3⟩ := key
  have hpoll : ∀ t : Rc, pollR t q = t := fun t => by unfold pollR; rw [if_neg (by omega)]
  have hrec : recS r q.bytes = (startR (advS (putP r q)), unitS r q, 0) := by
    unfold recS
    rw [if_neg (by rw [hok]; decide)]
    dsimp only
    rw [decP_bytesP hq, if_neg (by simp)]
    dsimp only
    rw [k1, if_neg (by simp), hpoll]
  obtain ⟨e1, e2, e3, -⟩ := startR_same (advS (putP r q))
  have hfst : (advS (putP r q)).first = (dropS r.lk.bits r.first (putP r q).parts).1 := by unfold advS adv2; split <;> rfl
  have hprt : (advS (putP r q)).parts = (dropS r.lk.bits r.first (putP r q).parts).2 := by unfold advS adv2; split <;> rfl
  have hlk : (advS (putP r q)).lk = r.lk := by unfold advS adv2; split <;> rfl
  rw [hrec]
  dsimp only
  rw [e1, e2, e3, hfst, hprt, hlk, k3]
  refine ⟨rfl, rfl, ?_⟩
  unfold unitS
  rw [k2]
  by_cases hE : s + n = u.length
  · have hcm : compB m = true := by
      rw [hme, if_pos (he.2 hE)]
      show decide ((0 : Int) < ((s + n : Nat) : Int) ∧ (0 : Int) = 0 ∧ ((s + n : Nat) : Int) = ((s + n : Nat) : Int)) = true
      exact decide_eq_true ⟨by omega, rfl, rfl⟩
    rw [hcm, if_pos rfl, if_pos hE, if_pos hE, if_pos hE, if_pos rfl]
    refine ⟨by rw [hme]; show u.take (s + n) = u; rw [hE, List.take_length], ?_⟩
    have : dropS r.lk.bits r.first [donePa r.first] = ((r.first + 1) % 2 ^ r.lk.bits.toNat, []) := by
      rw [dropS, if_pos ⟨rfl, rfl⟩, dropS]
    rw [this]; exact ⟨rfl, rfl⟩
  · have hcm : compB m = false := by
      rw [hme, if_neg (fun h => hE (he.1 h))]
      show decide ((0 : Int) < -1 ∧ (0 : Int) = 0 ∧ ((s + n : Nat) : Int) = -1) = false
      exact decide_eq_false (by omega)
    rw [hcm, if_neg (by decide), if_neg hE, if_neg hE, if_neg hE, if_neg (by decide)]
    have : dropS r.lk.bits r.first [m] = (r.first, [m]) := by
      rw [dropS, if_neg]
      rintro ⟨_, h⟩
      rw [hme] at h; cases h
    rw [this]
    refine ⟨rfl, rfl, ?_⟩
    show [m] = _
    unfold recvP
    rw [if_neg (by omega), hme, if_neg (fun h => hE (he.1 h))]
/-- without losses: what was submitted is what has come and what waits -/
structure WayC (c : Cu) (r : Rc) (U got : List (List Int)) : Prop where
  ok : cuOk c
  rok : r.okB = true
  bits : r.lk.bits = c.bits
  first : r.first = c.next
  split : U = got ++ c.q
  parts : r.parts = recvP c.next c.sent.toNat (c.q.headD [])
theorem headOk_nil {c : Cu} (h : c.q = []) : headOk c ↔ c.sent = 0 := by unfold headOk; rw [h]
theorem headOk_cons {c : Cu} {d : List Int} {l : List (List Int)} (h : c.q = d :: l) : headOk c ↔ c.sent < d.length := by unfold headOk; rw [h]
theorem after_ok {c : Cu} {d : List Int} {l : List (List Int)} {n : Nat} (h : cuOk c) (hq : c.q = d :: l) (hn : 1 ≤ n) (hs : c.sent + n ≤ d.length) : cuOk (afterC c d l n) ∧ waitC (afterC c d l n) = waitC c - n := by
  have h' := h
  obtain ⟨h1, h2, h3, h4, h5, h6⟩ := h
  have hp := pow_bits h1
  have hw : waitC c = sumL c.q - c.sent := by unfold waitC; rw [if_neg (fun k => k h')]
  rw [hq] at h3 h5
  simp only [List.length_cons] at h3
  by_cases c1 : c.sent + n = d.length
  · have e : afterC c d l n = { c with q := l, sent := 0, next := (c.next + 1) % 2 ^ c.bits.toNat } := by unfold afterC; rw [if_pos c1]
    have ho : cuOk (afterC c d l n) := by
      rw [e]
      refine ⟨h1, ?_, by show l.length ≤ 256; omega, Int.le_refl _, fun x hx => h5 x (by simp; exact .inr hx), ?_⟩
      · show 0 ≤ (c.next + 1) % 2 ^ c.bits.toNat ∧ (c.next + 1) % 2 ^ c.bits.toNat < 2 ^ c.bits.toNat
        rcases hp with e | e | e | e | e <;> rw [e] <;> omega
      · cases l with
        | nil => exact (headOk_nil rfl).2 rfl
        | cons y l =>
          have := (h5 y (by simp)).1
          exact (headOk_cons rfl).2 (by show (0 : Int) < y.length; omega)
    refine ⟨ho, ?_⟩
    unfold waitC
    rw [if_neg (fun k => k ho), if_neg (fun k => k h'), e, hq]
    show sumL l - 0 = (d.length : Int) + sumL l - c.sent - n
    omega
  · have e : afterC c d l n = { c with sent := c.sent + n } := by unfold afterC; rw [if_neg c1]
    have ho : cuOk (afterC c d l n) := by
      rw [e]
      refine ⟨h1, h2, by show c.q.length ≤ 256; rw [hq]; simp; omega, by show 0 ≤ c.sent + n; omega, by show ∀ x ∈ c.q, _; rw [hq]; exact h5, ?_⟩
      exact (headOk_cons (c := { c with sent := c.sent + n }) hq).2 (by show c.sent + n < d.length; omega)
    refine ⟨ho, ?_⟩
    unfold waitC
    rw [if_neg (fun k => k ho), if_neg (fun k => k h'), e]
    show sumL c.q - (c.sent + n) = _
    omega
theorem way_step {c : Cu} {r : Rc} {U got : List (List Int)} {size : Int} (h : WayC c r U got) (hq : c.q ≠ []) (hs : 6 ≤ size ∧ size ≤ 4096) (hg : ∀ b bs, (decP b bs).2 = 0 → (decP b bs).1.ok b) :
    (buildC c size).2.2 = 0 ∧ (recS r (buildC c size).2.1).2.2 = 0 ∧ ((buildC c size).2.1.length : Int) ≤ size ∧ waitC (buildC c size).1 < waitC c ∧
    WayC (buildC c size).1 (plainR' (recS r (buildC c size).2.1).1) U (if (recS r (buildC c size).2.1).2.1 = [] then got else got ++ [(recS r (buildC c size).2.1).2.1]) := by
  obtain ⟨h1, h2, h3, h4, h5, h6⟩ := h
  obtain ⟨d, l, hq⟩ : ∃ d l, c.q = d :: l := by
    cases hc : c.q with
    | nil => exact absurd hc hq
    | cons d l => exact ⟨d, l, rfl⟩
  have hro := rest_ok h1 hq
  have hhn := headN_or (restP c d).part
  obtain ⟨g1, g2, g3, g4, g5, g6, g7⟩ := cut_shape (size := size) hro (by omega)
  obtain ⟨k1, k2, k3⟩ := cut_ok hro g1
  obtain ⟨q, hqe⟩ : ∃ q, q = (cutP c.bits (restP c d) size).1 := ⟨_, rfl⟩
  rw [← hqe] at g2 g3 g4 g5 g6 g7 k1 k2 k3
  have hs0 := h1.2.2.2.1
  have hs1 : c.sent < d.length := by have h := h1.2.2.2.2.2; unfold headOk at h; rw [hq] at h; exact h
  obtain ⟨s, hse⟩ := natOf hs0
  have hrd : (restP c d).data = d.drop s := by show d.drop c.sent.toNat = _; rw [hse, Int.toNat_natCast]
  rw [hrd] at k2 g6 g7
  rw [List.length_drop] at g6 g7
  have hB : buildC c size = (afterC c d l q.data.length, q.bytes, 0) := by
    unfold buildC
    rw [if_neg (fun k => k h1), if_neg (by omega), hq]
    dsimp only
    rw [if_neg (fun k => k g1), ← hqe]
    unfold encP
    rw [if_pos k1]
  have hends : ends (restP c d).part = true := by
    show ends (if c.sent = 0 then 0 else 2) = true
    split <;> rfl
  have hpar : r.parts = recvP r.first s d := by
    rw [h6, h4, hq, hse, Int.toNat_natCast]; rfl
  have R := rec_one (r := r) (q := q) (u := d) (s := s) (n := q.data.length) h2 (by rw [h3]; exact k1) (by rw [g2, h4]; rfl) hpar (by rw [g4]; exact hse) k2 k3 (by omega) (by
    rw [g6]
    exact ⟨fun hh => by have := hh.2; omega, fun hh => ⟨hends, by omega⟩⟩) (by rw [g3]; rfl)
  obtain ⟨r1, r2, r3, r4, r5⟩ := R
  have hok2 := rec_ok (bs := q.bytes) h2 hg
  obtain ⟨a1, a2⟩ := after_ok (n := q.data.length) h1 hq k3 (by omega)
  have hdl := (h1.2.2.2.2.1 d (by rw [hq]; simp)).1
  rw [hB]
  refine ⟨rfl, r1, ?_, by rw [a2]; omega, ?_⟩
  · have hh : q.bytes.length = headN q.part + q.data.length := by
      unfold Pc.bytes headN
      split <;> simp <;> omega
    show (q.bytes.length : Int) ≤ size
    rw [hh]; omega
  · show WayC (afterC c d l q.data.length) (plainR' (recS r q.bytes).1) U (if (recS r q.bytes).2.1 = [] then got else got ++ [(recS r q.bytes).2.1])
    rw [r3]
    by_cases hE : s + q.data.length = d.length
    · rw [if_pos hE] at r4 r5
      rw [if_pos hE, if_neg (by intro h; rw [h] at hdl; simp at hdl)]
      have e : afterC c d l q.data.length = { c with q := l, sent := 0, next := (c.next + 1) % 2 ^ c.bits.toNat } := by unfold afterC; rw [if_pos (by omega)]
      refine ⟨a1, plain_ok hok2, ?_, ?_, ?_, ?_⟩
      · rw [e]; show (recS r q.bytes).1.lk.bits = c.bits; rw [r2, h3]
      · rw [e]; show (recS r q.bytes).1.first = (c.next + 1) % 2 ^ c.bits.toNat; rw [r4, h4, h3]
      · rw [e, h5, hq]; show _ = (got ++ [d]) ++ l; simp
      · rw [e]; show (recS r q.bytes).1.parts = _; rw [r5]; rfl
    · rw [if_neg hE] at r4 r5
      rw [if_neg hE, if_pos rfl]
      have e : afterC c d l q.data.length = { c with sent := c.sent + q.data.length } := by unfold afterC; rw [if_neg (by omega)]
      refine ⟨a1, plain_ok hok2, ?_, ?_, ?_, ?_⟩
      · rw [e]; show (recS r q.bytes).1.lk.bits = c.bits; rw [r2, h3]
      · rw [e]; show (recS r q.bytes).1.first = c.next; rw [r4, h4]
      · rw [e]; exact h5
      · rw [e]; show (recS r q.bytes).1.parts = recvP c.next (c.sent + q.data.length).toNat (c.q.headD [])
        rw [r5, h4, hq, show (c.sent + q.data.length).toNat = s + q.data.length by omega]; rfl
end Go.Sx
/- CHAPTER 23: UnackWhole. -/
namespace Go.Sx
/-- the bytes of a unit: its number and the place -/
def uW (i m : Nat) : List Int := (List.range m).map fun k : Nat => ((i : Int) + k) % 256
theorem uW_len (i m : Nat) : (uW i m).length = m := by simp [uW]
theorem uW_set {i m k : Nat} (h : k < m) : (uW i k ++ List.replicate (m - k) (0 : Int)).set k (((i : Int) + k) % 256) = uW i (k + 1) ++ List.replicate (m - (k + 1)) 0 := by
  have e : List.replicate (m - k) (0 : Int) = 0 :: List.replicate (m - (k + 1)) 0 := by rw [show m - k = (m - (k + 1)) + 1 by omega]; rfl
  rw [e, List.set_append_right _ _ (by rw [uW_len]; omega), uW_len, Nat.sub_self]
  show uW i k ++ (((i : Int) + k) % 256) :: _ = _
  have : uW i (k + 1) = uW i k ++ [((i : Int) + k) % 256] := by simp [uW, List.range_succ]
  rw [this, List.append_assoc]; rfl
/-- the units of the law -/
def unitW (ls : List Int) (i : Nat) : List Int := uW i (1 + (ls.getD i 0).toNat)
def unitsW (ls : List Int) (k : Nat) : List (List Int) := (List.range k).map (unitW ls)
theorem unitsW_succ (ls : List Int) (k : Nat) : unitsW ls (k + 1) = unitsW ls k ++ [unitW ls k] := by simp [unitsW, List.range_succ]
theorem unitsW_len (ls : List Int) (k : Nat) : (unitsW ls k).length = k := by simp [unitsW]
theorem byt_getD {bs : List Int} (hb : Bytes bs) (i : Nat) : 0 ≤ bs.getD i 0 ∧ bs.getD i 0 < 256 := by
  rcases Nat.lt_or_ge i bs.length with h | h
  · rw [getD_at2 h]; exact hb _ h
  · simp [List.getD, List.getElem?_eq_none h]
theorem unitsW_mem {ls : List Int} {k : Nat} (hb : Bytes ls) {d : List Int} (h : d ∈ unitsW ls k) : 1 ≤ d.length ∧ d.length ≤ 256 ∧ Bytes d := by
  simp only [unitsW, List.mem_map, List.mem_range] at h
  obtain ⟨i, hi, rfl⟩ := h
  have hg := byt_getD hb i
  refine ⟨by unfold unitW; rw [uW_len]; omega, by unfold unitW; rw [uW_len]; omega, fun j hj => ?_⟩
  simp [unitW, uW]; omega
theorem unitsW_sum {ls : List Int} (hb : Bytes ls) (k : Nat) : sumL (unitsW ls k) ≤ 256 * k := by
  induction k with
  | zero => simp [unitsW, sumL]
  | succ k ih =>
    rw [unitsW_succ, sumL_snoc]
    have := (unitsW_mem (k := k + 1) hb (d := unitW ls k) (by rw [unitsW_succ]; simp)).2.1
    omega
theorem cW_ok {b : Int} {ls : List Int} {k : Nat} (hb : bitsOk b) (hl : Bytes ls) (hk : k ≤ 60) : cuOk ⟨b, 0, unitsW ls k, 0⟩ := by
  refine ⟨hb, ?_, by show (unitsW ls k).length ≤ 256; rw [unitsW_len]; omega, Int.le_refl _, fun d hd => ?_, ?_⟩
  · show (0 : Int) ≤ 0 ∧ (0 : Int) < 2 ^ b.toNat
    rcases pow_bits hb with e | e | e | e | e <;> rw [e] <;> omega
  · have := unitsW_mem hl hd
    exact ⟨this.1, by omega⟩
  · cases hq : unitsW ls k with
    | nil => exact (headOk_nil rfl).2 rfl
    | cons y l =>
      have := (unitsW_mem hl (d := y) (k := k) (by rw [hq]; simp)).1
      exact (headOk_cons rfl).2 (by show (0 : Int) < y.length; omega)
end Go.Sx
namespace Go.Proofs.Ytlgolgpellbnbaa
open Go.Sx Go.RowKit
set_option maxRecDepth 100000
theorem build_bytes {c : Cu} {size : Int} (h : ∀ d ∈ c.q, Bytes d) : Bytes (buildC c size).2.1 := by
  unfold buildC
  by_cases h1 : cuOk c
  · rw [if_neg (fun k => k h1)]
    by_cases h2 : size < 0 ∨ size > 4096
    · rw [if_pos h2]; exact bytes_nil
    · rw [if_neg h2]
      cases hq : c.q with
      | nil => exact bytes_nil
      | cons d l =>
        dsimp only
        by_cases h3 : (cutP c.bits (restP c d) size).2.2 = 0
        · rw [if_neg (fun k => k h3)]
          obtain ⟨_, k2, _⟩ := cut_ok (rest_ok h1 hq) h3
          refine encP_bytes ?_
          rw [k2]
          have hd : Bytes (restP c d).data := by
            have := bytes_mem.1 (h d (by rw [hq]; simp))
            exact bytes_mem.2 fun x hx => this x (List.mem_of_mem_drop hx)
          exact bytes_mem.2 fun x hx => bytes_mem.1 hd x (List.mem_of_mem_take hx)
        · rw [if_pos h3]; exact bytes_nil
  · rw [if_pos h1]; exact bytes_nil
section
variable {sa la : Option Addr} {sc lc : Nat} {ss ls : List Int} {bits : Int} {w : World}
theorem law23_UnackWhole_ct (hss : SlR (IntC .u8) 1 w sa ss) (hls : SlR (IntC .u8) 1 w la ls) (hbs : Bytes ss) (hbl : Bytes ls) (hbi : 0 ≤ bits ∧ bits < 256) :
    Calls Try.prog N_law23_UnackWhole #[.slice sa ss.length sc, .slice la ls.length lc, .int .u8 bits] w fun e w' => e = .returned (.bool true) ∧ Below w.heap.size w w' := by
  apply F_law23_UnackWhole_ok
  unfold F_law23_UnackWhole
  have H := St.nil w
  refine bsplit_dec (fun c14 => awakeTo H) (fun c14 => ?_)
  refine kW_i64 (by omega) ?_
  refine kTmod (by omega) ?_
  refine kW_i64 (by omega) ?_
  obtain ⟨bb, hbb⟩ : ∃ bb, bb = (5 : Int) + bits % 5 := ⟨_, rfl⟩
  have hb : bitsOk bb := ⟨by omega, by omega⟩
  rw [← hbb]
  refine (unack_New_ct (n := bb) (wait := 5)).mono ?_
  have hlk : lkOk ⟨bb, 1, 1, 5, 0, 1⟩ := ⟨hb, ⟨by dsimp only; omega, by dsimp only; omega⟩, ⟨by dsimp only; omega, by dsimp only; omega⟩, ⟨by dsimp only; omega, by dsimp only; omega⟩, ⟨by dsimp only; omega, by dsimp only; omega⟩, ⟨by dsimp only; omega, by dsimp only; omega⟩⟩
  have hp : newU bb 5 = (⟨bb, 0, [], 0⟩, ⟨⟨bb, 1, 1, 5, 0, 1⟩, 0, 0, 0, -1, 0, 0, false, []⟩, 0) := by unfold newU; rw [if_pos hlk]
  rw [hp]
  obtain ⟨r0, hr0⟩ : ∃ r0 : Rc, r0 = ⟨⟨bb, 1, 1, 5, 0, 1⟩, 0, 0, 0, -1, 0, 0, false, []⟩ := ⟨_, rfl⟩
  have r0ok : r0.okB = true := by rw [hr0]; exact new_ok hlk (f := 0) (by unfold snOk; dsimp only; rcases pow_bits hb with e | e | e | e | e <;> rw [e] <;> omega)
  have r0f : r0.first = 0 ∧ r0.parts = [] ∧ r0.lk.bits = bb := by rw [hr0]; exact ⟨rfl, rfl, rfl⟩
  rw [← hr0]
  rintro _ w2 ⟨rfl, hb2⟩; have H2 := H.pass hb2; clear H
  refine ⟨_, _, _, _, _, _, _, _, _, _, _, _, _, _, _, _, _, _, _, _, _, _, _, rfl, ?_⟩
  refine H2.alloc ?_; clear H2; intro b w3 H3
  refine H3.alloc ?_; clear H3; intro b1 w4 H4
  simp only [List.cons_append, List.nil_append] at H4
  refine H4.store (i := 0) rfl (by rfl) (by rfl) ?_; clear H4; intro w5 H5
  refine H5.store (i := 1) rfl (by rfl) (by rfl) ?_; clear H5; intro w6 H6
  have H6 := H6.nilE encBL Ty_S_uint8 1
  replace H6 : St (fun _ => False) [] w w6 [.blk b Ty_api_Cutter (encCu ⟨bb, 0, unitsW ls 0, 0⟩ none 0), .blk b1 Ty_api_Receiver (encRc r0 none 0), .els encBL Ty_S_uint8 1 none 0 []] (fun _ => True) := H6
  refine ⟨fun sent_a sent_l sent_c i => ((ls.length - i).toNat, fun w7 => ∃ (k : Nat) (L : List BL) (ca : Option Addr) (cc : Nat), i = k ∧ k ≤ ls.length ∧ sent_l = L.length ∧ L.map (·.d) = unitsW ls k ∧
    St (fun _ => False) [] w w7 [.blk b Ty_api_Cutter (encCu ⟨bb, 0, unitsW ls k, 0⟩ ca cc), .blk b1 Ty_api_Receiver (encRc r0 none 0), .els encBL Ty_S_uint8 1 sent_a sent_c L] (fun w => DaB L w ∧ QR w ca (unitsW ls k))), ⟨0, [], none, 0, rfl, by omega, rfl, rfl, H6.imp fun _ _ => ⟨fun x hx => by simp at hx, .nil⟩⟩, ?_⟩
  clear H6
  rintro _ sent_a _ sent_c i w7 ⟨k, L, ca, cc, rfl, hk, rfl, hL, H7⟩
  have hLk : L.length = k := by have := congrArg List.length hL; rw [List.length_map, unitsW_len] at this; exact this
  refine bsplit_dec (fun c13 => ?_) (fun c13 => ?_)
  · have hlt : k < ls.length := by omega
    refine ix_u8 (hls.below H7.below) k rfl hlt fun b2 hb2 => ?_
    refine hb2 _ ?_
    have hg := bytes_getD hbl k
    obtain ⟨m, hm⟩ : ∃ m : Nat, m = 1 + (ls.getD k 0).toNat := ⟨_, rfl⟩
    refine kW_i64 (by omega) ?_
    refine kW_i64 (by omega) ?_
    have hm2 : (1 : Int) + ls.getD k 0 = (m : Int) := by omega
    rw [hm2]
    refine H7.makeI m rfl rfl (by omega) (by omega) fun b3 w8 hb8 H8 => ?_
    clear H7
    simp only [List.cons_append, List.nil_append] at H8
    rw [Int.toNat_natCast]
    refine ⟨fun k1 => ((m - k1).toNat, fun w9 => ∃ k2 : Nat, k1 = k2 ∧ k2 ≤ m ∧ St (fun _ => False) [] w w9 [.blk b Ty_api_Cutter (encCu ⟨bb, 0, unitsW ls k, 0⟩ ca cc), .blk b1 Ty_api_Receiver (encRc r0 none 0), .els encBL Ty_S_uint8 1 sent_a sent_c L, .ints Ty_uint8 .u8 (some ⟨b3, 0, none⟩) m (uW k k2 ++ List.replicate (m - k2) 0)] (fun w => DaB L w ∧ QR w ca (unitsW ls k))), ⟨0, rfl, by omega, H8⟩, ?_⟩
    clear H8
    rintro _ k1 w9 ⟨k2, rfl, hk2, H9⟩
    refine bsplit_dec (fun c1 => ?_) (fun c1 => ?_)
    · refine kW_i64 (by omega) ?_
      refine kWu8 ?_
      refine kIx_at ⟨by omega, by omega⟩ ?_
      rw [add_mk, Nat.zero_add, Int.toNat_natCast, Nat.mul_one]
      refine H9.setI (i := 3) rfl (by simp [uW_len]; omega) ?_
      intro w10 _ H10
      simp only [List.set_cons_succ, List.set_cons_zero] at H10
      rw [uW_set (by omega)] at H10
      refine kW_i64 (by omega) ?_
      exact ⟨⟨k2 + 1, by omega, by omega, H10⟩, by dsimp only; omega⟩
    · obtain rfl : k2 = m := by omega
      rw [Nat.sub_self, List.replicate_zero, List.append_nil] at H9
      have hu : uW k k2 = unitW ls k := by rw [hm]; rfl
      rw [hu] at H9
      have hul : k2 = (unitW ls k).length := by rw [← hu, uW_len]
      obtain ⟨u, hue⟩ : ∃ u, u = unitW ls k := ⟨_, rfl⟩
      rw [← hue] at H9 hul
      have hum := unitsW_mem hbl (k := k + 1) (d := u) (by rw [unitsW_succ, hue]; simp)
      have hcap := H9.capI (i := 3) rfl
      replace H9 := St.shareLast (R := [_, _, _]) H9
      refine H9.alloc ?_; clear H9; intro b5 w11 H11
      simp only [List.cons_append, List.nil_append] at H11
      refine H11.appEB encBL_ok (i := 2) (j := 3) rfl [⟨u, some ⟨b3, 0, none⟩, k2⟩] (by rw [hul]; rfl) sl_Ty_S_S_uint8 rfl (by simp; omega) (by simp; omega) ?_
      intro x_a x_c w12 H12
      simp only [List.set_cons_succ, List.set_cons_zero] at H12
      refine ⟨_, _, _, _, _, _, H12.cells (i := 0) rfl, ?_⟩
      rw [hul]
      have hsm : SmQ (unitsW ls k) := ⟨by rw [unitsW_len]; omega, fun d hd => by have := (unitsW_mem hbl hd).2.1; omega⟩
      refine (unack_Submit_ct (x := ⟨bb, 0, unitsW ls k, 0⟩) H12.get.2.2 hsm (ints_ok H12.get.1).sl (by omega)).mono ?_
      have hsub : subC ⟨bb, 0, unitsW ls k, 0⟩ u = (⟨bb, 0, unitsW ls (k + 1), 0⟩, 0) := by
        unfold subC
        rw [if_neg (fun h => h (cW_ok hb hbl (by omega))), if_neg (fun h => h ⟨hum.1, by omega⟩), if_neg (by show ¬ (unitsW ls k).length = 256; rw [unitsW_len]; omega), unitsW_succ, hue]
      rw [hsub]
      rintro _ w13 ⟨a13, c13, rfl, K⟩; have H13 := H12.callF K; clear H12 K
      rw [List.append_nil] at H13
      refine ⟨_, _, _, _, _, _, _, rfl, ?_⟩
      refine H13.alloc ?_; clear H13; intro b6 w14 H14
      simp only [List.cons_append, List.nil_append] at H14
      refine H14.store (i := 4) rfl (by rfl) (by rfl) ?_; clear H14; intro w15 H15
      refine bsplit_nd (fun c => absurd rfl c) (fun c => ?_)
      refine ⟨_, _, _, _, _, _, H15.cells (i := 4) rfl, ?_⟩
      refine H15.store (i := 0) rfl (by rfl) (by rfl) ?_; clear H15; intro w16 H16
      refine kW_i64 (by omega) ?_
      refine ⟨⟨k + 1, L ++ [(⟨u, some ⟨b3, 0, none⟩, k2⟩ : BL)], a13, c13, by omega, by omega, by simp, ?_, (St.left (X := [_, _, _]) H16).imp fun w h => ⟨fun y hy => ?_, h.1⟩⟩, by dsimp only; omega⟩
      · rw [List.map_append, hL, unitsW_succ, hue]; rfl
      · rcases List.mem_append.1 hy with hy | hy
        · exact h.2.2.1 y hy
        · obtain rfl : y = ⟨u, some ⟨b3, 0, none⟩, k2⟩ := by simpa using hy
          exact ⟨(ints_ok h.2.1).sl, hcap⟩
  · obtain rfl : k = ls.length := by omega
    obtain ⟨U, hU⟩ : ∃ U, U = unitsW ls ls.length := ⟨_, rfl⟩
    rw [← hU] at hL H7
    have hUm : ∀ d ∈ U, 1 ≤ d.length ∧ d.length ≤ 256 ∧ Bytes d := fun d hd => unitsW_mem hbl (by rw [hU] at hd; exact hd)
    have hUs : sumL U ≤ 15360 := by have := unitsW_sum hbl ls.length; rw [← hU] at this; omega
    have hUl : U.length ≤ 60 := by rw [hU, unitsW_len]; omega
    have hc0 : cuOk ⟨bb, 0, U, 0⟩ := by rw [hU]; exact cW_ok hb hbl (by omega)
    have hw0 : waitC ⟨bb, 0, U, 0⟩ = sumL U := by unfold waitC; rw [if_neg (fun h => h hc0)]; show sumL U - 0 = _; omega
    have hway0 : WayC ⟨bb, 0, U, 0⟩ r0 U [] := ⟨hc0, r0ok, r0f.2.2, r0f.1, rfl, by rw [r0f.2.1]; rfl⟩
    have H7 := H7.nilE encBL Ty_S_uint8 1
    simp only [List.cons_append, List.nil_append] at H7
    have g0 : GP r0.parts := by rw [r0f.2.1]; exact gp_nil
    refine ⟨fun got_a got_l got_c i1 => ((20000 - i1).toNat, fun w17 => ∃ (c : Cu) (r : Rc) (ca : Option Addr) (cc : Nat) (ra : Option Addr) (rc : Nat) (G : List BL), 0 ≤ i1 ∧ i1 + waitC c ≤ 15360 ∧ got_l = G.length ∧ WayC c r U (G.map (·.d)) ∧ GP r.parts ∧
      St (fun _ => False) [] w w17 [.blk b Ty_api_Cutter (encCu c ca cc), .blk b1 Ty_api_Receiver (encRc r ra rc), .els encBL Ty_S_uint8 1 sent_a sent_c L, .els encBL Ty_S_uint8 1 got_a got_c G] (fun w => QR w ca c.q ∧ PaR w ra r.parts ∧ DaB L w ∧ DaB G w)),
      ⟨⟨bb, 0, U, 0⟩, r0, ca, cc, none, 0, [], Int.le_refl _, by rw [hw0]; omega, rfl, hway0, g0, H7.imp fun w h => ⟨h.2, by rw [r0f.2.1]; exact .nil, h.1, fun x hx => by simp at hx⟩⟩, ?_⟩
    clear H7
    rintro _ got_a _ got_c i1 w17 ⟨c, r, ca, cc, ra, rc, G, hi0, hiw, rfl, hway, hgp, H17⟩
    have hqU : ∀ d ∈ c.q, d ∈ U := fun d hd => by rw [hway.split]; simp [hd]
    have hsm : SmQ c.q := ⟨by have := hway.ok.2.2.1; omega, fun d hd => by have := (hUm d (hqU d hd)).2.1; omega⟩
    have hGU : G.length ≤ 60 := by
      have := congrArg List.length hway.split
      rw [List.length_append, List.length_map] at this; omega
    have hw : waitC c = sumL c.q - c.sent := by unfold waitC; rw [if_neg (fun h => h hway.ok)]
    have hwn : 0 ≤ waitC c := by
      rw [hw]
      have h := hway.ok.2.2.2.2.2
      cases hq : c.q with
      | nil => have := (headOk_nil hq).1 h; simp only [sumL]; omega
      | cons d l => have := (headOk_cons hq).1 h; have := sumL_nn l; simp only [sumL]; omega
    refine ⟨fun w23 => c.q ≠ [] ∧ i1 < 20000 ∧ St (fun _ => False) [] w w23 [.blk b Ty_api_Cutter (encCu c ca cc), .blk b1 Ty_api_Receiver (encRc r ra rc), .els encBL Ty_S_uint8 1 sent_a sent_c L, .els encBL Ty_S_uint8 1 got_a got_c G] (fun w => QR w ca c.q ∧ PaR w ra r.parts ∧ DaB L w ∧ DaB G w), ?_, ?_⟩
    · rintro _ w23 ⟨hcq, hi2, H23⟩
      clear H17
      refine ⟨fun n w24 => (6 ≤ n ∧ n ≤ 4096) ∧ St (fun _ => False) [] w w24 [.blk b Ty_api_Cutter (encCu c ca cc), .blk b1 Ty_api_Receiver (encRc r ra rc), .els encBL Ty_S_uint8 1 sent_a sent_c L, .els encBL Ty_S_uint8 1 got_a got_c G] (fun w => QR w ca c.q ∧ PaR w ra r.parts ∧ DaB L w ∧ DaB G w), ?_, ?_⟩
      · rintro _ n w24 ⟨hn, H24⟩
        clear H23
        obtain ⟨s1, s2, s3, s4, s5⟩ := way_step (size := n) hway hcq hn fun b bs h => decP_good h
        have hBb : Bytes (buildC c n).2.1 := build_bytes fun d hd => (hUm d (hqU d hd)).2.2
        obtain ⟨B, hB⟩ : ∃ B, B = buildC c n := ⟨_, rfl⟩
        obtain ⟨R, hR⟩ : ∃ R, R = recS r B.2.1 := ⟨_, rfl⟩
        rw [← hB] at s1 s2 s3 s4 s5 hBb
        rw [← hR] at s2 s5
        obtain ⟨g1, g2⟩ := rec_gp hgp hBb
        rw [← hR] at g1 g2
        refine ⟨_, _, _, _, _, _, H24.cells (i := 0) rfl, ?_⟩
        refine (unack_Build_ct H24.get.1 hsm (by omega)).mono ?_
        rw [← hB]
        rintro _ w25 ⟨a25, c25, ba25, bc25, rfl, hbc, K⟩; have H25 := H24.callF K; clear H24 K
        rw [List.append_nil] at H25
        refine ⟨_, _, _, _, _, _, _, _, _, _, rfl, ?_⟩
        refine H25.alloc ?_; clear H25; intro b8 w26 H26
        simp only [List.cons_append, List.nil_append] at H26
        refine H26.store (i := 4) rfl (by rfl) (by rfl) ?_; clear H26; intro w27 H27
        refine ⟨_, _, _, _, _, _, _, _, _, _, _, _, _, _, _, _, H27.cells (i := 1) rfl, ?_⟩
        refine (unack_Receive_ct H27.get.2.2.1 hgp.sm H27.get.1.2 hBb (by omega) hbc).mono ?_
        rw [← hR]
        rintro _ w28 ⟨a28, c28, ba28, bc28, rfl, hbc28, K⟩; have H28 := H27.callF K; clear H27 K
        rw [List.append_nil] at H28
        refine ⟨_, _, _, _, _, _, _, _, _, _, _, _, _, _, _, _, _, _, _, _, rfl, ?_⟩
        refine H28.alloc ?_; clear H28; intro b9 w29 H29
        simp only [List.set_cons_succ, List.set_cons_zero, List.cons_append, List.nil_append] at H29
        refine H29.store (i := 5) rfl (by rfl) (by rfl) ?_; clear H29; intro w30 H30
        replace H30 : St (fun _ => False) [] w w30 [.blk b Ty_api_Cutter (encCu c ca cc), .blk b1 Ty_api_Receiver (encRc r ra rc), .els encBL Ty_S_uint8 1 sent_a sent_c L, .els encBL Ty_S_uint8 1 got_a got_c G, .blk b8 Ty_api_Cutter (encCu B.1 a25 c25), .blk b9 Ty_api_Receiver (encRc (plainR R.1) a28 c28)]
          (fun w => (PaR w a28 R.1.parts ∧ SlR (IntC .u8) 1 w ba28 R.2.1) ∧ QR w a25 B.1.q ∧ DaB L w ∧ DaB G w) := H30.imp fun w h => ⟨h.1, h.2.1.1, h.2.2.2.2.1, h.2.2.2.2.2⟩
        refine ⟨fun w31 => St (fun _ => False) [] w w31 [.blk b Ty_api_Cutter (encCu c ca cc), .blk b1 Ty_api_Receiver (encRc r ra rc), .els encBL Ty_S_uint8 1 sent_a sent_c L, .els encBL Ty_S_uint8 1 got_a got_c G, .blk b8 Ty_api_Cutter (encCu B.1 a25 c25), .blk b9 Ty_api_Receiver (encRc (plainR R.1) a28 c28)]
          (fun w => (PaR w a28 R.1.parts ∧ SlR (IntC .u8) 1 w ba28 R.2.1) ∧ QR w a25 B.1.q ∧ DaB L w ∧ DaB G w), ?_, ?_⟩
        · rintro _ w31 H31
          clear H30
          refine bsplit_dec (fun c12 => ?_) (fun c12 => ?_)
          · have hne : R.2.1 ≠ [] := fun h => by rw [h] at c12; simp at c12
            refine H31.alloc ?_; clear H31; intro b10 w32 H32
            simp only [List.cons_append, List.nil_append] at H32
            refine H32.appEB encBL_ok (i := 3) (j := 6) rfl [⟨R.2.1, ba28, bc28⟩] rfl sl_Ty_S_S_uint8 rfl (by simp; omega) (by simp; omega) ?_
            intro x_a1 x_c1 w33 H33
            simp only [List.set_cons_succ, List.set_cons_zero] at H33
            replace H33 := St.dropLast (R := [_, _, _, _, _, _]) H33
            refine H33.drew ?_; clear H33; intro w34 H34
            refine ⟨fun z => z = b9, ?_⟩
            refine ⟨_, _, _, _, _, _, H34.cells (i := 4) rfl, ?_⟩
            refine ⟨rfl, ?_⟩
            refine ⟨_, _, _, _, _, _, _, _, _, _, _, _, _, _, _, _, H34.cells (i := 5) rfl, ?_⟩
            refine H34.store (i := 0) rfl (by rfl) (by rfl) ?_; intro w35 H35
            refine ⟨keepB1 (H34.ok 5 _ rfl) (H35.ok 5 _ rfl), ?_⟩
            clear H34
            refine H35.store (i := 1) rfl (by rfl) (by rfl) ?_; clear H35; intro w36 H36
            refine kW_i64 (by omega) ?_
            refine ⟨⟨B.1, plainR R.1, a25, c25, a28, c28, G ++ [(⟨R.2.1, ba28, bc28⟩ : BL)], by omega, by omega, by simp, ?_, g1, (St.left (X := [_, _, _, _]) H36).imp fun w h => ⟨h.2.1, h.1.1, h.2.2.1, fun y hy => ?_⟩⟩, by dsimp only; omega⟩
            · rw [List.map_append]; rw [if_neg hne] at s5; exact s5
            · rcases List.mem_append.1 hy with hy | hy
              · exact h.2.2.2 y hy
              · obtain rfl : y = ⟨R.2.1, ba28, bc28⟩ := by simpa using hy
                exact ⟨h.1.2, hbc28⟩
          · have hne : R.2.1 = [] := List.eq_nil_of_length_eq_zero (by omega)
            refine H31.drew ?_; clear H31; intro w37 H37
            refine ⟨fun z => z = b9, ?_⟩
            refine ⟨_, _, _, _, _, _, H37.cells (i := 4) rfl, ?_⟩
            refine ⟨rfl, ?_⟩
            refine ⟨_, _, _, _, _, _, _, _, _, _, _, _, _, _, _, _, H37.cells (i := 5) rfl, ?_⟩
            refine H37.store (i := 0) rfl (by rfl) (by rfl) ?_; intro w38 H38
            refine ⟨keepB1 (H37.ok 5 _ rfl) (H38.ok 5 _ rfl), ?_⟩
            clear H37
            refine H38.store (i := 1) rfl (by rfl) (by rfl) ?_; clear H38; intro w39 H39
            refine kW_i64 (by omega) ?_
            refine ⟨⟨B.1, plainR R.1, a25, c25, a28, c28, G, by omega, by omega, rfl, ?_, g1, (St.left (X := [_, _, _, _]) H39).imp fun w h => ⟨h.2.1, h.1.1, h.2.2.1, h.2.2.2⟩⟩, by dsimp only; omega⟩
            rw [if_pos hne] at s5; exact s5
        · refine bsplit_nd (fun c11 => absurd s1 c11) (fun c11 => ?_)
          refine bsplit_nd (fun c10 => absurd s2 c10) (fun c10 => ?_)
          refine bsplit_dec (fun c9 => ?_) (fun c9 => ?_)
          · exfalso; omega
          · exact H30
      · refine bsplit_dec (fun c8 => ?_) (fun c8 => ?_)
        · obtain ⟨k, rfl⟩ := natOf hi0
          refine ix_u8 (hss.below H23.below) k rfl (by omega) fun b7 hb7 => ?_
          refine hb7 _ ?_
          have hg := bytes_getD hbs k
          refine kW_i64 (by omega) ?_
          refine kW_i64 (by omega) ?_
          exact ⟨by omega, H23⟩
        · exact ⟨by omega, H23⟩
    · have fin : ∀ {w' : World} {K : Prop}, waitC c = 0 → c.q = [] := fun {w' K} h => by
        rw [hw] at h
        cases hq : c.q with
        | nil => rfl
        | cons d l =>
          rw [hq] at h
          have h1 := (headOk_cons hq).1 hway.ok.2.2.2.2.2
          have := sumL_nn l
          simp only [sumL] at h; omega
      refine bsplit_dec (fun c7 => ?_) (fun c7 => ?_)
      · refine ⟨_, _, _, _, _, _, H17.cells (i := 0) rfl, ?_⟩
        refine (unack_Waiting_ct H17.get.1 hsm).mono ?_
        rintro _ w18 ⟨rfl, hb18⟩; have H18 := H17.pass hb18; clear H17
        refine ⟨_, rfl, ?_⟩
        refine bsplit_dec (fun c4 => ?_) (fun c4 => ?_)
        · refine ⟨fun h => ?_, by omega, H18⟩
          rw [hw, h] at c4
          have := (headOk_nil h).1 hway.ok.2.2.2.2.2
          simp only [sumL] at c4; omega
        · have hq0 : c.q = [] := fin (w' := w) (K := True) (by omega)
          have hGU' : G.map (·.d) = U := by have := hway.split; rw [hq0, List.append_nil] at this; exact this.symm
          refine bsplit_dec (fun c3 => ?_) (fun c3 => absurd rfl c3)
          have q1 := H18.slE encBL_ok (i := 2) rfl
          have q2 := H18.slE encBL_ok (i := 3) rfl
          have C := roll_SameAll_ct (c1 := sent_c) (c2 := got_c) (Q := U) (by rw [← hL]; exact up_qr q1 H18.get.2.2.1) (by rw [← hGU']; exact up_qr q2 H18.get.2.2.2) (by omega)
          have e1 : U.length = L.length := by rw [← hL, List.length_map]
          have e2 : U.length = G.length := by rw [← hGU', List.length_map]
          rw [e1] at C
          rw [show G.length = L.length by omega]
          refine C.mono ?_
          rintro _ w19 ⟨rfl, hb19⟩; have H19 := H18.pass hb19; clear H18
          refine ⟨_, rfl, ?_⟩
          refine bsplit_intro (fun c2 => ?_) (fun c2 => by cases c2)
          exact awakeTo H19
      · exfalso; omega
end
end Go.Proofs.Ytlgolgpellbnbaa
/- Chapter 23, plain: units cut and joined with losses; no program in sight. -/
namespace Go.Sx
theorem ex_gap (G : Nat → Bool) : ∀ (n first : Nat), (∀ k, G k = true → k < first + n) → ∃ d, (∀ k, k < d → G (first + k) = true) ∧ G (first + d) = false
  | 0, first, h => by
    refine ⟨0, fun k hk => by omega, ?_⟩
    cases hg : G (first + 0) with
    | false => rfl
    | true => have := h _ hg; omega
  | n + 1, first, h => by
    cases hg : G first with
    | false => exact ⟨0, fun k hk => by omega, hg⟩
    | true =>
      obtain ⟨d, h1, h2⟩ := ex_gap G n (first + 1) fun k hk => by have := h k hk; omega
      refine ⟨d + 1, fun k hk => ?_, by rw [← h2]; congr 1; omega⟩
      cases k with
      | zero => exact hg
      | succ k => have := h1 k (by omega); rw [← this]; congr 1; omega
/-- with losses: what has come is of what was sent, in order -/
structure Lss (c : Cu) (r : Rc) (U : List (List Int)) (j first : Nat) (G : Nat → Bool) (at_ : Nat) : Prop where
  ok : cuOk c
  rok : r.okB = true
  cb : c.bits = 5
  rb : r.lk.bits = 5
  ul : U.length ≤ 15
  nx : c.next = j
  q : c.q = U.drop j
  jl : j ≤ U.length
  rel : Rel 5 (fun k => U.getD k []) r.first first r.parts G
  rf : r.first = (first : Int) % 32
  gf : G first = false
  gk : ∀ k, k < first → G k = true
  gj : ∀ k, G k = true → k ≤ j ∧ k < U.length
  al : at_ ≤ j + 1
  au : at_ ≤ U.length
  aj : G j = false → at_ ≤ j
theorem lss_empty {c : Cu} {r : Rc} {U : List (List Int)} {j first at_ : Nat} {G : Nat → Bool} (h : Lss c r U j first G at_) (hq : c.q = []) : (buildC c 9).2.2 = 14 := by
  unfold buildC
  rw [if_neg (fun k => k h.ok), if_neg (by omega), hq]
theorem lss_step {c : Cu} {r : Rc} {U : List (List Int)} {j first at_ : Nat} {G : Nat → Bool} (h : Lss c r U j first G at_) (hq : c.q ≠ []) (hg : ∀ b bs, (decP b bs).2 = 0 → (decP b bs).1.ok b) :
    (buildC c 9).2.2 = 0 ∧ (∃ j', Lss (buildC c 9).1 r U j' first G at_) ∧
    (((recS r (buildC c 9).2.1).2.1 = [] ∧ ∃ j' first' G', Lss (buildC c 9).1 (plainR' (recS r (buildC c 9).2.1).1) U j' first' G' at_) ∨
      ∃ hj : j < U.length, (recS r (buildC c 9).2.1).2.1 = U[j] ∧ at_ ≤ j ∧ ∀ m, m ≤ j → ∃ j' first' G', Lss (buildC c 9).1 (plainR' (recS r (buildC c 9).2.1).1) U j' first' G' (m + 1)) := by
  obtain ⟨h1, h2, cb, rb, ul, nx, hcq, jl, rel, rf, gf, gk, gj, al, au, aj⟩ := h
  obtain ⟨d, l, hq⟩ : ∃ d l, c.q = d :: l := by
    cases hc : c.q with
    | nil => exact absurd hc hq
    | cons d l => exact ⟨d, l, rfl⟩
  have hj : j < U.length := by
    rcases Nat.lt_or_ge j U.length with h | h
    · exact h
    · rw [List.drop_of_length_le h] at hcq; rw [hcq] at hq; cases hq
  have hdU : d = U[j] ∧ l = U.drop (j + 1) := by
    rw [List.drop_eq_getElem_cons hj] at hcq
    rw [hcq] at hq
    injection hq with e1 e2
    exact ⟨e1.symm, e2.symm⟩
  have hro := rest_ok h1 hq
  have hhn := headN_or (restP c d).part
  obtain ⟨g1, g2, g3, g4, g5, g6, g7⟩ := cut_shape (size := 9) hro (by omega)
  obtain ⟨k1, k2, k3⟩ := cut_ok hro g1
  obtain ⟨q, hqe⟩ : ∃ q, q = (cutP c.bits (restP c d) 9).1 := ⟨_, rfl⟩
  rw [← hqe] at g2 g3 g4 g5 g6 g7 k1 k2 k3
  have hs0 := h1.2.2.2.1
  have hs1 : c.sent < d.length := (headOk_cons hq).1 h1.2.2.2.2.2
  obtain ⟨s, hse⟩ := natOf hs0
  have hrd : (restP c d).data = d.drop s := by show d.drop c.sent.toNat = _; rw [hse, Int.toNat_natCast]
  rw [hrd] at k2 g6 g7
  rw [List.length_drop] at g6 g7
  have hB : buildC c 9 = (afterC c d l q.data.length, q.bytes, 0) := by
    unfold buildC
    rw [if_neg (fun k => k h1), if_neg (by omega), hq]
    dsimp only
    rw [if_neg (fun k => k g1), ← hqe]
    unfold encP
    rw [if_pos k1]
  have hends : ends (restP c d).part = true := by
    show ends (if c.sent = 0 then 0 else 2) = true
    split <;> rfl
  obtain ⟨a1, -⟩ := after_ok (n := q.data.length) h1 hq k3 (by omega)
  have hoff : q.off = s := by rw [g4]; exact hse
  have hen : q.en = ((s + q.data.length : Nat) : Int) := by show q.off + (q.data.length : Int) = _; rw [hoff]; omega
  have hPc : Piece q d := by
    refine ⟨by rw [hoff]; omega, k3, by rw [hen]; omega, fun k hk1 hk2 => ?_, ?_⟩
    · rw [hoff] at hk1 ⊢
      rw [hen] at hk2
      rw [Int.toNat_natCast]
      have e : q.data.getD (k - s) 0 = ((d.drop s).take q.data.length).getD (k - s) 0 := by rw [← k2]
      rw [e]
      simp only [List.getD_eq_getElem?_getD]
      rw [List.getElem?_take, if_pos (by omega), List.getElem?_drop]
      congr 2; omega
    · rw [g6, hen]
      exact ⟨fun hh => by have := hh.2; omega, fun hh => ⟨hends, by omega⟩⟩

  have hnxt : ∃ j', (j' = j ∨ j' = j + 1) ∧ (buildC c 9).1 = afterC c d l q.data.length ∧ (afterC c d l q.data.length).bits = 5 ∧ (afterC c d l q.data.length).next = (j' : Nat) ∧ (afterC c d l q.data.length).q = U.drop j' ∧ j' ≤ U.length := by
    by_cases c1 : c.sent + q.data.length = d.length
    · refine ⟨j + 1, .inr rfl, by rw [hB], ?_⟩
      unfold afterC
      rw [if_pos c1]
      refine ⟨cb, ?_, hdU.2, by omega⟩
      show (c.next + 1) % 2 ^ c.bits.toNat = ((j + 1 : Nat) : Int)
      rw [cb, nx]
      show ((j : Int) + 1) % 32 = _
      omega
    · refine ⟨j, .inl rfl, by rw [hB], ?_⟩
      unfold afterC
      rw [if_neg c1]
      exact ⟨cb, nx, hcq, jl⟩
  obtain ⟨j', hj', -, b1, b2, b3, b4⟩ := hnxt
  have hB1 : (buildC c 9).1 = afterC c d l q.data.length := by rw [hB]
  have hB2 : (buildC c 9).2.1 = q.bytes := by rw [hB]
  rw [hB1, hB2]
  have keep : ∀ {r' : Rc} {first' : Nat} {G' : Nat → Bool} {a : Nat}, r'.okB = true → r'.lk.bits = 5 → Rel 5 (fun k => U.getD k []) r'.first first' r'.parts G' → r'.first = (first' : Int) % 32 → G' first' = false → (∀ k, k < first' → G' k = true) → (∀ k, G' k = true → k ≤ j ∧ k < U.length) →
      a ≤ j + 1 → (G' j = false → a ≤ j) → Lss (afterC c d l q.data.length) r' U j' first' G' a := fun {r' first' G' a} x1 x2 x3 x4 x5 x6 x7 x8 x9 =>
    ⟨a1, x1, b1, x2, ul, b2, b3, b4, x3, x4, x5, x6, fun k hk => ⟨by have := (x7 k hk).1; omega, (x7 k hk).2⟩, by omega, by omega, fun hh => by
      rcases hj' with e | e
      · rw [e] at hh ⊢; exact x9 hh
      · omega⟩
  refine ⟨by rw [hB], ⟨j', keep h2 rb rel rf gf gk gj al aj⟩, ?_⟩
  have hqsn : q.sn = (j : Int) := by rw [g2]; exact nx
  have hqpo : q.poll = 0 := by rw [g3]; rfl
  have hqok : q.ok r.lk.bits := by rw [rb, ← cb]; exact k1
  have hfj : first ≤ j + 1 := by
    rcases Nat.eq_zero_or_pos first with h | h
    · omega
    · have := (gj _ (gk (first - 1) (by omega))).1; omega
  by_cases hcase : first ≤ j
  ·
    have hpl : r.place q.sn = ((j - first : Nat) : Int) := by
      show way r.lk.bits r.first q.sn = _
      rw [rb, rf, hqsn]
      unfold way
      show ((j : Int) - (first : Int) % 32) % 32 = _
      omega
    have hfi : first + (j - first) = j := by omega
    have hgd : U.getD j [] = d := by rw [hdU.1]; simp [List.getD, hj]
    have S := rel_step (s := r) (U := fun k => U.getD k []) (G := G) (first := first) (j := j - first) (q := q) h2 (by rw [rb]; exact rel) gf hqok hpl (by rw [hpl, rb]; show ((j - first : Nat) : Int) < 16; omega) (by rw [hfi]; show Piece q (U.getD j []); rw [hgd]; exact hPc) hqpo
    rw [hfi, rb] at S
    obtain ⟨t1, t2, t3, t4, t5⟩ := S
    have hok2 := rec_ok (bs := q.bytes) h2 hg
    have hGb : ∀ k, (if (recS r q.bytes).2.1 ≠ [] then setG G j else G) k = true → k ≤ j ∧ k < U.length := fun k hk => by
      split at hk
      · unfold setG at hk
        split at hk
        · omega
        · exact gj k hk
      · exact gj k hk
    obtain ⟨dd, d1, d2⟩ := ex_gap (if (recS r q.bytes).2.1 ≠ [] then setG G j else G) (j + 1) first fun k hk => by have := (hGb k hk).1; omega
    obtain ⟨y1, y2⟩ := t5 _ rfl dd d1 d2
    have hGk : ∀ k, k < first + dd → (if (recS r q.bytes).2.1 ≠ [] then setG G j else G) k = true := fun k hk => by
      rcases Nat.lt_or_ge k first with hk1 | hk1
      · have := gk k hk1
        split
        · unfold setG; split
          · rfl
          · exact this
        · exact this
      · have := d1 (k - first) (by omega)
        rw [show first + (k - first) = k by omega] at this
        exact this
    have hrf2 : (recS r q.bytes).1.first = ((first + dd : Nat) : Int) % 32 := by
      rw [y1, rf]
      show ((first : Int) % 32 + (dd : Int)) % 32 = _
      omega
    have hlk2 : (plainR' (recS r q.bytes).1).lk.bits = 5 := by show (recS r q.bytes).1.lk.bits = 5; rw [t3]; exact rb
    by_cases hO : (recS r q.bytes).2.1 = []
    · left
      refine ⟨hO, j', first + dd, G, ?_⟩
      have hif : (if (recS r q.bytes).2.1 ≠ [] then setG G j else G) = G := if_neg (fun h => h hO)
      rw [hif] at d2 y2 hGk hGb
      exact keep (plain_ok hok2) hlk2 y2 hrf2 d2 hGk hGb al aj
    · right
      obtain ⟨v1, v2⟩ := t4 hO
      refine ⟨hj, by rw [v2]; show U.getD j [] = _; rw [hgd, hdU.1], aj v1, fun m hm => ?_⟩
      have hif : (if (recS r q.bytes).2.1 ≠ [] then setG G j else G) = setG G j := if_pos hO
      rw [hif] at d2 y2 hGk hGb
      refine ⟨j', first + dd, setG G j, keep (plain_ok hok2) hlk2 y2 hrf2 d2 hGk hGb (by omega) fun hh => ?_⟩
      unfold setG at hh
      rw [if_pos rfl] at hh; cases hh
  ·
    left
    have hpl : r.place q.sn = 31 := by
      show way r.lk.bits r.first q.sn = _
      rw [rb, rf, hqsn]
      unfold way
      show ((j : Int) - (first : Int) % 32) % 32 = _
      omega
    have hrefu : refusedS r q = 11 := by
      unfold refusedS
      rw [if_pos]
      rw [hpl, rb]
      show (31 : Int) ≥ 16
      omega
    have hrec : recS r q.bytes = (r, [], 11) := by
      unfold recS
      rw [if_neg (by rw [h2]; decide)]
      dsimp only
      rw [decP_bytesP hqok, if_neg (by simp)]
      dsimp only
      rw [hrefu, if_pos (by decide)]
      unfold pollR
      rw [if_neg (by omega)]
    rw [hrec]
    exact ⟨rfl, j', first, G, keep (plain_ok h2) rb rel rf gf gk gj al aj⟩
end Go.Sx
/- CHAPTER 23: UnackLosses. -/
namespace Go.Sx
/-- the units of the law: their number, and zeros -/
def unitV (ls : List Int) (i : Nat) : List Int := (List.replicate (1 + (ls.getD i 0 % 60).toNat) (0 : Int)).set 0 ((i : Int) % 256)
def unitsV (ls : List Int) (k : Nat) : List (List Int) := (List.range k).map (unitV ls)
theorem unitsV_succ (ls : List Int) (k : Nat) : unitsV ls (k + 1) = unitsV ls k ++ [unitV ls k] := by simp [unitsV, List.range_succ]
theorem unitsV_len (ls : List Int) (k : Nat) : (unitsV ls k).length = k := by simp [unitsV]
theorem unitV_mem {ls : List Int} {i : Nat} (hb : Bytes ls) : 1 ≤ (unitV ls i).length ∧ (unitV ls i).length ≤ 60 ∧ Bytes (unitV ls i) := by
  have hg := byt_getD hb i
  refine ⟨by simp [unitV], by simp [unitV]; omega, bytes_mem.2 fun x hx => ?_⟩
  unfold unitV at hx
  rcases List.mem_or_eq_of_mem_set hx with h | h
  · rw [List.mem_replicate] at h; omega
  · omega
theorem unitsV_mem {ls : List Int} {k : Nat} (hb : Bytes ls) {d : List Int} (h : d ∈ unitsV ls k) : 1 ≤ d.length ∧ d.length ≤ 60 ∧ Bytes d := by
  simp only [unitsV, List.mem_map, List.mem_range] at h
  obtain ⟨i, hi, rfl⟩ := h
  exact unitV_mem hb
theorem cV_ok {ls : List Int} {k : Nat} (hl : Bytes ls) (hk : k ≤ 15) : cuOk ⟨5, 0, unitsV ls k, 0⟩ := by
  refine ⟨⟨by show (5 : Int) ≤ 5; omega, by show (5 : Int) ≤ 9; omega⟩, ⟨by show (0 : Int) ≤ 0; omega, by show (0 : Int) < 32; omega⟩, by show (unitsV ls k).length ≤ 256; rw [unitsV_len]; omega, Int.le_refl _, fun d hd => ?_, ?_⟩
  · have := unitsV_mem hl hd
    exact ⟨this.1, by omega⟩
  · cases hq : unitsV ls k with
    | nil => exact (headOk_nil rfl).2 rfl
    | cons y l =>
      have := (unitsV_mem hl (d := y) (k := k) (by rw [hq]; simp)).1
      exact (headOk_cons rfl).2 (by show (0 : Int) < y.length; omega)
def encBo (x : Bool) : List Value := [.bool x]
end Go.Sx
namespace Go.Proofs.Ytlgolgpellbnbaa
open Go.Sx Go.RowKit
set_option maxRecDepth 100000
theorem bools_of {W : World} {a : Option Addr} {l : Nat} (h : 0 < l → ∃ b, a = some b ∧ ∀ i, i < l → ∃ es, cellsAt W (b.add (i * 1)) 0 es ∧ es.length = 1 ∧ Shape.bool.R W es) :
    ∃ L : List Bool, L.length = l ∧ SlR (CE encBo) 1 W a L := by
  rcases Nat.eq_zero_or_pos l with rfl | hl
  · exact ⟨[], rfl, .inl rfl⟩
  · obtain ⟨b, rfl, hb⟩ := h hl
    obtain ⟨L, hL, hq⟩ := choose_list (Q := fun i (s : Bool) => cellsAt W (b.add (i * 1)) 0 (encBo s)) l fun i hi => by
      obtain ⟨es, hes, _, x, rfl⟩ := hb i hi
      exact ⟨x, hes⟩
    exact ⟨L, hL, .inr ⟨b, rfl, fun i hi => hq i hi⟩⟩
section
variable {oa la : Option Addr} {oc lc : Nat} {os : List Bool} {ls : List Int} {w : World}
theorem law23_UnackLosses_ct (hos : SlR (CE encBo) 1 w oa os) (hls : SlR (IntC .u8) 1 w la ls) (hbl : Bytes ls) :
    Calls Try.prog N_law23_UnackLosses #[.slice oa os.length oc, .slice la ls.length lc] w fun e w' => e = .returned (.bool true) ∧ Below w.heap.size w w' := by
  apply F_law23_UnackLosses_ok
  unfold F_law23_UnackLosses
  have H := St.nil w
  refine ⟨fun w3 => ls.length ≤ 15 ∧ FreshR w w3 [], ?_, ?_⟩
  · rintro _ w3 ⟨hl15, H3⟩
    clear H
    refine (unack_New_ct (n := 5) (wait := 5)).mono ?_
    have hlk : lkOk ⟨5, 1, 1, 5, 0, 1⟩ := by decide
    have hp : newU 5 5 = (⟨5, 0, [], 0⟩, ⟨⟨5, 1, 1, 5, 0, 1⟩, 0, 0, 0, -1, 0, 0, false, []⟩, 0) := by unfold newU; rw [if_pos hlk]
    rw [hp]
    obtain ⟨r0, hr0⟩ : ∃ r0 : Rc, r0 = ⟨⟨5, 1, 1, 5, 0, 1⟩, 0, 0, 0, -1, 0, 0, false, []⟩ := ⟨_, rfl⟩
    have r0ok : r0.okB = true := by rw [hr0]; exact new_ok hlk (f := 0) (by decide)
    have r0f : r0.first = 0 ∧ r0.parts = [] ∧ r0.lk.bits = 5 := by rw [hr0]; exact ⟨rfl, rfl, rfl⟩
    rw [← hr0]
    rintro _ w4 ⟨rfl, hb4⟩; have H4 := H3.pass hb4; clear H3
    refine ⟨_, _, _, _, _, _, _, _, _, _, _, _, _, _, _, _, _, _, _, _, _, _, _, rfl, ?_⟩
    refine H4.alloc ?_; clear H4; intro b w5 H5
    refine H5.alloc ?_; clear H5; intro b1 w6 H6
    simp only [List.cons_append, List.nil_append] at H6
    refine H6.store (i := 0) rfl (by rfl) (by rfl) ?_; clear H6; intro w7 H7
    refine H7.store (i := 1) rfl (by rfl) (by rfl) ?_; clear H7; intro w8 H8
    have H8 := H8.nilE encBL Ty_S_uint8 1
    replace H8 : St (fun _ => False) [] w w8 [.blk b Ty_api_Cutter (encCu ⟨5, 0, unitsV ls 0, 0⟩ none 0), .blk b1 Ty_api_Receiver (encRc r0 none 0), .els encBL Ty_S_uint8 1 none 0 []] (fun _ => True) := H8
    refine ⟨fun sent_a sent_l sent_c i => ((ls.length - i).toNat, fun w9 => ∃ (k : Nat) (L : List BL) (ca : Option Addr) (cc : Nat), i = k ∧ k ≤ ls.length ∧ sent_l = L.length ∧ L.map (·.d) = unitsV ls k ∧
      St (fun _ => False) [] w w9 [.blk b Ty_api_Cutter (encCu ⟨5, 0, unitsV ls k, 0⟩ ca cc), .blk b1 Ty_api_Receiver (encRc r0 none 0), .els encBL Ty_S_uint8 1 sent_a sent_c L] (fun w => DaB L w ∧ QR w ca (unitsV ls k))), ⟨0, [], none, 0, rfl, by omega, rfl, rfl, H8.imp fun _ _ => ⟨fun x hx => by simp at hx, .nil⟩⟩, ?_⟩
    clear H8
    rintro _ sent_a _ sent_c i w9 ⟨k, L, ca, cc, rfl, hk, rfl, hL, H9⟩
    have hLk : L.length = k := by have := congrArg List.length hL; rw [List.length_map, unitsV_len] at this; exact this
    refine bsplit_dec (fun c14 => ?_) (fun c14 => ?_)
    · have hlt : k < ls.length := by omega
      refine ix_u8 (hls.below H9.below) k rfl hlt fun b2 hb2 => ?_
      refine hb2 _ ?_
      have hg := byt_getD hbl k
      obtain ⟨m, hm⟩ : ∃ m : Nat, m = 1 + (ls.getD k 0 % 60).toNat := ⟨_, rfl⟩
      refine kW_i64 (by omega) ?_
      refine kTmod (by omega) ?_
      refine kW_i64 (by omega) ?_
      have hm2 : (1 : Int) + ls.getD k 0 % 60 = (m : Int) := by omega
      rw [hm2]
      refine H9.makeI m rfl rfl (by omega) (by omega) fun b3 w10 hb10 H10 => ?_
      clear H9
      simp only [List.cons_append, List.nil_append] at H10
      rw [Int.toNat_natCast]
      refine kWu8 ?_
      refine kIx_at ⟨by omega, by omega⟩ ?_
      refine H10.setI (i := 3) (o := 0) rfl (by simp; omega) ?_
      intro w11 _ H11
      simp only [List.set_cons_succ, List.set_cons_zero] at H11
      have hu : (List.replicate m (0 : Int)).set 0 ((k : Int) % 256) = unitV ls k := by rw [hm]; rfl
      rw [hu] at H11
      obtain ⟨u, hue⟩ : ∃ u, u = unitV ls k := ⟨_, rfl⟩
      have hul : m = u.length := by rw [hue, ← hu]; simp
      rw [← hue] at H11
      have hum := unitV_mem (i := k) hbl
      rw [← hue] at hum
      have hcap := H11.capI (i := 3) rfl
      replace H11 := St.shareLast (R := [_, _, _]) H11
      refine H11.alloc ?_; clear H11; intro b5 w12 H12
      simp only [List.cons_append, List.nil_append] at H12
      refine H12.appEB encBL_ok (i := 2) (j := 3) rfl [⟨u, some ⟨b3, 0, none⟩, m⟩] (by rw [hul]; rfl) sl_Ty_S_S_uint8 rfl (by simp; omega) (by simp; omega) ?_
      intro x_a x_c w13 H13
      simp only [List.set_cons_succ, List.set_cons_zero] at H13
      refine ⟨_, _, _, _, _, _, H13.cells (i := 0) rfl, ?_⟩
      have hsm : SmQ (unitsV ls k) := ⟨by rw [unitsV_len]; omega, fun d hd => by have := (unitsV_mem hbl hd).2.1; omega⟩
      have hsub : subC ⟨5, 0, unitsV ls k, 0⟩ u = (⟨5, 0, unitsV ls (k + 1), 0⟩, 0) := by
        unfold subC
        rw [if_neg (fun h => h (cV_ok hbl (by omega))), if_neg (fun h => h ⟨hum.1, by omega⟩), if_neg (by show ¬ (unitsV ls k).length = 256; rw [unitsV_len]; omega), unitsV_succ, hue]
      have C := unack_Submit_ct (x := ⟨5, 0, unitsV ls k, 0⟩) (a := ca) (c := cc) (dc := m) H13.get.2.2 hsm (ints_ok H13.get.1).sl (by omega)
      rw [hsub, ← hul] at C
      refine C.mono ?_; clear C
      rintro _ w14 ⟨a14, c14', rfl, K⟩; have H14 := H13.callF K; clear H13 K
      rw [List.append_nil] at H14
      refine ⟨_, _, _, _, _, _, _, rfl, ?_⟩
      refine H14.store (i := 0) rfl (by rfl) (by rfl) ?_; clear H14; intro w15 H15
      refine kW_i64 (by omega) ?_
      refine ⟨⟨k + 1, L ++ [(⟨u, some ⟨b3, 0, none⟩, m⟩ : BL)], a14, c14', by omega, by omega, by simp, ?_, (St.left (X := [_, _, _]) H15).imp fun w h => ⟨fun y hy => ?_, h.1⟩⟩, by dsimp only; omega⟩
      · rw [List.map_append, hL, unitsV_succ, hue]; rfl
      · rcases List.mem_append.1 hy with hy | hy
        · exact h.2.2.1 y hy
        · obtain rfl : y = ⟨u, some ⟨b3, 0, none⟩, m⟩ := by simpa using hy
          exact ⟨(ints_ok h.2.1).sl, hcap⟩
    · obtain rfl : k = ls.length := by omega
      obtain ⟨U, hU⟩ : ∃ U, U = unitsV ls ls.length := ⟨_, rfl⟩
      rw [← hU] at hL H9
      have hUm : ∀ d ∈ U, 1 ≤ d.length ∧ d.length ≤ 60 ∧ Bytes d := fun d hd => unitsV_mem hbl (by rw [hU] at hd; exact hd)
      have hUl : U.length ≤ 15 := by rw [hU, unitsV_len]; omega
      have hUL : L.length = U.length := by rw [← hL, List.length_map]
      have hc0 : cuOk ⟨5, 0, U, 0⟩ := by rw [hU]; exact cV_ok hbl (by omega)
      have hl0 : Lss ⟨5, 0, U, 0⟩ r0 U 0 0 (fun _ => false) 0 :=
        ⟨hc0, r0ok, rfl, r0f.2.2, hUl, rfl, rfl, Nat.zero_le _, by rw [r0f.1, r0f.2.1]; exact rel_new _ _, by rw [r0f.1]; rfl, rfl, fun k hk => absurd hk (Nat.not_lt_zero k), fun k hk => Bool.noConfusion hk, Nat.zero_le _, Nat.zero_le _, fun _ => Nat.zero_le _⟩
      have g0 : GP r0.parts := by rw [r0f.2.1]; exact gp_nil
      refine ⟨fun at1 i1 => ((300 - i1).toNat, fun w16 => ∃ (c : Cu) (r : Rc) (ca : Option Addr) (cc : Nat) (ra : Option Addr) (rc : Nat) (j first : Nat) (G : Nat → Bool) (m : Nat), at1 = m ∧ 0 ≤ i1 ∧ Lss c r U j first G m ∧ GP r.parts ∧
        St (fun _ => False) [] w w16 [.blk b Ty_api_Cutter (encCu c ca cc), .blk b1 Ty_api_Receiver (encRc r ra rc), .els encBL Ty_S_uint8 1 sent_a sent_c L] (fun w => QR w ca c.q ∧ PaR w ra r.parts ∧ DaB L w)),
        ⟨⟨5, 0, U, 0⟩, r0, ca, cc, none, 0, 0, 0, fun _ => false, 0, rfl, Int.le_refl _, hl0, g0, H9.imp fun w h => ⟨h.2, by rw [r0f.2.1]; exact .nil, h.1⟩⟩, ?_⟩
      clear H9
      rintro _ at1 i1 w16 ⟨c, r, ca, cc, ra, rc, j, first, G, m, rfl, hi0, hls, hgp, H16⟩
      have hqU : ∀ d ∈ c.q, d ∈ U := fun d hd => by rw [hls.q] at hd; exact List.mem_of_mem_drop hd
      have hsm : SmQ c.q := ⟨by have := hls.ok.2.2.1; omega, fun d hd => by have := (hUm d (hqU d hd)).2.1; omega⟩
      have hval : ∀ {w' : World} {T : List Res} {P : World → Prop}, (∀ w, P w → QR w ca c.q) → St (fun _ => False) [] w w' T P → Calls Try.prog N_unack_Valid #[aggCu c ca cc] w' fun e w'' => ∃ r : Bool, e = .returned (.bool r) ∧ bsplit r (Calls Try.prog N_law23_awake #[] w'' fun e w'' => ∃ r : Bool, e = .returned (.bool r) ∧ (Ending.returned (.bool r) = .returned (.bool true) ∧ Below w.heap.size w w'')) (Ending.returned (.bool false) = .returned (.bool true) ∧ Below w.heap.size w w'') := fun {w' T P} hP H => by
        refine (unack_Valid_ct (hP _ H.get) hsm).mono ?_
        rintro _ w20 ⟨rfl, hb20⟩; have H20 := H.pass hb20
        refine ⟨_, rfl, ?_⟩
        rw [decide_eq_true hls.ok]
        refine bsplit_intro (fun c2 => ?_) (fun c2 => by cases c2)
        exact awakeTo H20
      refine bsplit_dec (fun c13 => ?_) (fun c13 => ?_)
      · have hBb : Bytes (buildC c 9).2.1 := build_bytes fun d hd => (hUm d (hqU d hd)).2.2
        refine ⟨_, _, _, _, _, _, H16.cells (i := 0) rfl, ?_⟩
        refine (unack_Build_ct H16.get.1 hsm (by omega)).mono ?_
        obtain ⟨B, hB⟩ : ∃ B, B = buildC c 9 := ⟨_, rfl⟩
        rw [← hB] at hBb ⊢
        rintro _ w17 ⟨a17, c17, ba17, bc17, rfl, hbc, K⟩; have H17 := H16.callF K; clear H16 K
        rw [List.append_nil] at H17
        refine ⟨_, _, _, _, _, _, _, _, _, _, rfl, ?_⟩
        refine H17.alloc ?_; clear H17; intro b6 w18 H18
        simp only [List.cons_append, List.nil_append] at H18
        refine H18.store (i := 3) rfl (by rfl) (by rfl) ?_; clear H18; intro w19 H19
        by_cases hq : c.q = []
        · have he := lss_empty hls hq
          rw [← hB] at he
          refine bsplit_dec (fun c11 => ?_) (fun c11 => absurd he c11)
          refine ⟨_, _, _, _, _, _, H19.cells (i := 0) rfl, ?_⟩
          exact hval (fun w h => h.2.1) H19
        · obtain ⟨e1, ⟨j1, e2⟩, e3⟩ := lss_step hls hq fun b bs h => decP_good h
          have hBl : B.2.1.length ≤ 100000 := by
            rw [hB]
            unfold buildC
            rw [if_neg (fun k => k hls.ok), if_neg (by omega)]
            cases hcq : c.q with
            | nil => exact absurd hcq hq
            | cons d l =>
              dsimp only
              split
              · simp
              · rename_i hce
                have hk := (cut_ok (rest_ok hls.ok hcq) (by simpa using hce)).1
                have h1 := encP_len c.bits (cutP c.bits (restP c d) 9).1
                have h2 := hk.2.2.2.2.2.2.2
                have h3 := hk.2.2.2.2.2.1.1
                show (encP c.bits (cutP c.bits (restP c d) 9).1).1.length ≤ 100000
                omega
          obtain ⟨R, hR⟩ : ∃ R, R = recS r B.2.1 := ⟨_, rfl⟩
          obtain ⟨g1, g2⟩ := rec_gp hgp hBb
          rw [← hB] at e1 e2 e3
          rw [← hR] at e3 g1 g2
          refine bsplit_dec (fun c11 => ?_) (fun c11 => ?_)
          · rw [e1] at c11; exact absurd c11 (by omega)
          refine bsplit_nd (fun c10 => absurd e1 c10) (fun c10 => ?_)
          refine ⟨_, _, _, _, _, _, H19.cells (i := 3) rfl, ?_⟩
          refine H19.store (i := 0) rfl (by rfl) (by rfl) ?_; clear H19; intro w22 H22
          replace H22 : St (fun _ => False) [] w w22 [.blk b Ty_api_Cutter (encCu B.1 a17 c17), .blk b1 Ty_api_Receiver (encRc r ra rc), .els encBL Ty_S_uint8 1 sent_a sent_c L] (fun w => (QR w a17 B.1.q ∧ SlR (IntC .u8) 1 w ba17 B.2.1) ∧ PaR w ra r.parts ∧ DaB L w) := (St.left (X := [_, _, _]) H22).imp fun w h => ⟨h.1, h.2.2⟩
          refine ⟨fun w23 => St (fun _ => False) [] w w23 [.blk b Ty_api_Cutter (encCu B.1 a17 c17), .blk b1 Ty_api_Receiver (encRc r ra rc), .els encBL Ty_S_uint8 1 sent_a sent_c L] (fun w => (QR w a17 B.1.q ∧ SlR (IntC .u8) 1 w ba17 B.2.1) ∧ PaR w ra r.parts ∧ DaB L w), ?_, ?_⟩
          · rintro _ w23 H23
            clear H22
            refine ⟨_, _, _, _, _, _, _, _, _, _, _, _, _, _, _, _, H23.cells (i := 1) rfl, ?_⟩
            refine (unack_Receive_ct H23.get.2.1 hgp.sm H23.get.1.2 hBb (by omega) hbc).mono ?_
            rw [← hR]
            rintro _ w24 ⟨a24, c24, ba24, bc24, rfl, hbc24, K⟩; have H24 := H23.callF K; clear H23 K
            rw [List.append_nil] at H24
            refine ⟨_, _, _, _, _, _, _, _, _, _, _, _, _, _, _, _, _, _, _, _, rfl, ?_⟩
            refine H24.alloc ?_; clear H24; intro b8 w25 H25
            simp only [List.cons_append, List.nil_append] at H25
            refine H25.store (i := 3) rfl (by rfl) (by rfl) ?_; clear H25; intro w26 H26
            refine ⟨_, _, _, _, _, _, _, _, _, _, _, _, _, _, _, _, H26.cells (i := 3) rfl, ?_⟩
            refine H26.store (i := 1) rfl (by rfl) (by rfl) ?_; clear H26; intro w27 H27
            replace H27 : St (fun _ => False) [] w w27 [.blk b Ty_api_Cutter (encCu B.1 a17 c17), .blk b1 Ty_api_Receiver (encRc (plainR R.1) a24 c24), .els encBL Ty_S_uint8 1 sent_a sent_c L] (fun w => SlR (IntC .u8) 1 w ba24 R.2.1 ∧ QR w a17 B.1.q ∧ PaR w a24 R.1.parts ∧ DaB L w) := (St.left (X := [_, _, _]) H27).imp fun w h => ⟨h.1.2, h.2.1.1, h.1.1, h.2.2.2⟩
            refine ⟨fun at3 w31 => ∃ k : Nat, at3 = k ∧ (R.2.1 = [] → k = m) ∧ (R.2.1 ≠ [] → k ≤ j) ∧ St (fun _ => False) [] w w31 [.blk b Ty_api_Cutter (encCu B.1 a17 c17), .blk b1 Ty_api_Receiver (encRc (plainR R.1) a24 c24), .els encBL Ty_S_uint8 1 sent_a sent_c L] (fun w => SlR (IntC .u8) 1 w ba24 R.2.1 ∧ QR w a17 B.1.q ∧ PaR w a24 R.1.parts ∧ DaB L w), ?_, ?_⟩
            · rintro _ at3 w31 ⟨k, rfl, hk1, hk2, H31⟩
              clear H27
              have hau := hls.au
              have hjl := hls.jl
              refine bsplit_dec (fun c9 => ?_) (fun c9 => ?_)
              · have hne : R.2.1 ≠ [] := fun h => by rw [h] at c9; simp at c9
                have hkj := hk2 hne
                rcases e3 with ⟨h, _⟩ | ⟨hj, hO, ha, hm⟩
                · exact absurd h hne
                · obtain ⟨j', first', G', hn⟩ := hm k hkj
                  refine kW_i64 (by omega) ?_
                  refine kW_i64 (by omega) ?_
                  exact ⟨⟨B.1, plainR R.1, a17, c17, a24, c24, j', first', G', k + 1, by omega, by omega, hn, g1, H31.imp fun w h => h.2⟩, by dsimp only; omega⟩
              · have hne : R.2.1 = [] := List.eq_nil_of_length_eq_zero (by omega)
                rcases e3 with ⟨_, j', first', G', hn⟩ | ⟨hj, hO, _, _⟩
                · refine kW_i64 (by omega) ?_
                  exact ⟨⟨B.1, plainR R.1, a17, c17, a24, c24, j', first', G', m, by rw [hk1 hne], by omega, hn, g1, H31.imp fun w h => h.2⟩, by dsimp only; omega⟩
                · rw [hne] at hO
                  have := (hUm _ (List.getElem_mem hj)).1
                  rw [← hO] at this; simp at this
            · have hau := hls.au
              refine ⟨fun at2 => ((U.length - at2).toNat, fun w28 => ∃ k : Nat, at2 = k ∧ (R.2.1 = [] → k = m) ∧ (R.2.1 ≠ [] → k ≤ j) ∧ k ≤ U.length ∧ St (fun _ => False) [] w w28 [.blk b Ty_api_Cutter (encCu B.1 a17 c17), .blk b1 Ty_api_Receiver (encRc (plainR R.1) a24 c24), .els encBL Ty_S_uint8 1 sent_a sent_c L] (fun w => SlR (IntC .u8) 1 w ba24 R.2.1 ∧ QR w a17 B.1.q ∧ PaR w a24 R.1.parts ∧ DaB L w)), ⟨m, rfl, fun _ => rfl, fun hne => ?_, hau, H27⟩, ?_⟩
              · rcases e3 with ⟨h, _⟩ | ⟨_, _, ha, _⟩
                · exact absurd h hne
                · exact ha
              clear H27
              rintro _ at2 w28 ⟨k, rfl, hk1, hk2, hk3, H28⟩
              refine ⟨fun w30 => R.2.1 ≠ [] ∧ k + 1 ≤ j ∧ St (fun _ => False) [] w w30 [.blk b Ty_api_Cutter (encCu B.1 a17 c17), .blk b1 Ty_api_Receiver (encRc (plainR R.1) a24 c24), .els encBL Ty_S_uint8 1 sent_a sent_c L] (fun w => SlR (IntC .u8) 1 w ba24 R.2.1 ∧ QR w a17 B.1.q ∧ PaR w a24 R.1.parts ∧ DaB L w), ?_, ?_⟩
              · rintro _ w30 ⟨hne, hkj, H30⟩
                clear H28
                have hjl := hls.jl
                refine bsplit_dec (fun c8 => ?_) (fun c8 => ?_)
                · exfalso; omega
                · refine kW_i64 (by omega) ?_
                  exact ⟨⟨k + 1, by omega, fun h => absurd h hne, fun _ => hkj, by omega, H30⟩, by dsimp only; omega⟩
              · refine bsplit_dec (fun c7 => ?_) (fun c7 => ?_)
                · have hne : R.2.1 ≠ [] := fun h => by rw [h] at c7; simp at c7
                  have hkj := hk2 hne
                  rcases e3 with ⟨h, _⟩ | ⟨hj, hO, ha, hm⟩
                  · exact absurd h hne
                  refine bsplit_dec (fun c6 => ?_) (fun c6 => ?_)
                  · exfalso; omega
                  · have hkU : k < U.length := by omega
                    have hs := H28.slE encBL_ok (i := 2) rfl
                    have hkL : k < L.length := by omega
                    refine ixE hs k rfl hkL fun b9 y hy hb9 => ?_
                    obtain rfl : L[k] = y := by rw [List.getElem?_eq_getElem hkL] at hy; exact Option.some.inj hy
                    refine ⟨_, _, _, hb9.1, ?_⟩
                    have hyd : L[k].d = U[k] := by
                      have : (L.map (·.d))[k]? = U[k]? := by rw [hL]
                      rw [List.getElem?_map, List.getElem?_eq_getElem hkL, List.getElem?_eq_getElem hkU] at this
                      exact Option.some.inj this
                    have hyB : Bytes L[k].d := by rw [hyd]; exact (hUm _ (List.getElem_mem hkU)).2.2
                    refine (roll_Same_ct (H28.get.2.2.2 _ (List.getElem_mem hkL)).1 H28.get.1 hyB g2).mono ?_
                    rintro _ w29 ⟨rfl, hb29⟩; have H29 := H28.pass hb29; clear H28
                    refine ⟨_, rfl, ?_⟩
                    refine bsplit_nd (fun c5 => ?_) (fun c5 => ?_)
                    · refine ⟨hne, ?_, H29⟩
                      rcases Nat.lt_or_ge k j with h | h
                      · exact h
                      · obtain rfl : k = j := by omega
                        exact absurd (by rw [hyd, hO]) c5
                    · exact ⟨k, rfl, hk1, hk2, H29⟩
                · exact ⟨k, rfl, hk1, hk2, H28⟩
          · refine bsplit_dec (fun c4 => ?_) (fun c4 => ?_)
            · obtain ⟨k, rfl⟩ := natOf hi0
              refine ixE (hos.belowE H22.below) k rfl (by omega) fun b7 y hy hb7 => ?_
              refine ⟨_, hb7.1, ?_⟩
              refine bsplit_intro (fun c3 => ?_) (fun c3 => ?_)
              · refine kW_i64 (by omega) ?_
                exact ⟨⟨B.1, r, a17, c17, ra, rc, j1, first, G, m, rfl, by omega, e2, hgp, H22.imp fun w h => ⟨h.1.1, h.2.1, h.2.2⟩⟩, by dsimp only; omega⟩
              · exact H22
            · exact H22
      · refine ⟨_, _, _, _, _, _, H16.cells (i := 0) rfl, ?_⟩
        exact hval (fun w h => h.1) H16
  · refine bsplit_dec (fun c1 => awakeTo H) (fun c1 => ?_)
    refine bsplit_dec (fun c => awakeTo H) (fun c => ?_)
    exact ⟨by omega, H⟩
end
end Go.Proofs.Ytlgolgpellbnbaa
