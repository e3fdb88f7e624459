import Derived.Test.YtlgolgpellbnbaaGreatM21a
import Derived.Test.YtlgolgpellbnbaaGreatM18
import Derived.Test.YtlgolgpellbnbaaGreatEq3
import Derived.Test.YtlgolgpellbnbaaGreatM21b
import Derived.Lib.SlBytesConst
namespace Go.Sx
structure Cu where
  bits : Int
  next : Int
  q : List (List Int)
  sent : Int
def sizedB (d : List Int) : Prop := 1 ≤ d.length ∧ d.length ≤ 2054
instance (d : List Int) : Decidable (sizedB d) := inferInstanceAs (Decidable (_ ∧ _))
def headOk (c : Cu) : Prop := match c.q with
  | [] => c.sent = 0
  | d :: _ => c.sent < d.length
instance (c : Cu) : Decidable (headOk c) := by unfold headOk; cases c.q <;> infer_instance
def cuOk (c : Cu) : Prop := bitsOk c.bits ∧ (0 ≤ c.next ∧ c.next < 2 ^ c.bits.toNat) ∧ c.q.length ≤ 256 ∧ 0 ≤ c.sent ∧ (∀ d ∈ c.q, sizedB d) ∧ headOk c
instance (c : Cu) : Decidable (cuOk c) := inferInstanceAs (Decidable (_ ∧ _))
def subC (c : Cu) (d : List Int) : Cu × Int :=
  if ¬ cuOk c then (c, 1) else if ¬ sizedB d then (c, 2) else if c.q.length = 256 then (c, 13) else ({ c with q := c.q ++ [d] }, 0)
def sumL : List (List Int) → Int
  | [] => 0
  | d :: l => d.length + sumL l
theorem sumL_snoc (l : List (List Int)) (d : List Int) : sumL (l ++ [d]) = sumL l + d.length := by
  induction l with
  | nil => simp [sumL]
  | cons x l ih => simp only [List.cons_append, sumL, ih]; omega
theorem sumL_nn (l : List (List Int)) : 0 ≤ sumL l := by
  induction l with
  | nil => exact Int.le_refl _
  | cons x l ih => simp only [sumL]; omega
theorem sumL_le {l : List (List Int)} (h : ∀ d ∈ l, sizedB d) : sumL l ≤ 2054 * l.length := by
  induction l with
  | nil => simp [sumL]
  | cons x l ih =>
    have h1 := (h x (by simp)).2
    have h2 := ih fun d hd => h d (by simp [hd])
    simp only [sumL, List.length_cons]; omega
theorem wait_fit {c : Cu} (h : cuOk c) : (0 ≤ c.sent ∧ c.sent ≤ 2054) ∧ ∀ k, sumL (c.q.take k) ≤ 600000 := by
  obtain ⟨-, -, hl, hs, hd, hh⟩ := h
  refine ⟨⟨hs, ?_⟩, fun k => ?_⟩
  · unfold headOk at hh
    cases hq : c.q with
    | nil => rw [hq] at hh; replace hh : c.sent = 0 := hh; omega
    | cons d l =>
      rw [hq] at hh
      replace hh : c.sent < d.length := hh
      have := (hd d (by rw [hq]; simp)).2; omega
  · have := sumL_le (l := c.q.take k) fun d hd' => hd d (List.mem_of_mem_take hd')
    have : (c.q.take k).length ≤ c.q.length := List.length_take_le' _ _
    omega
def waitC (c : Cu) : Int := if ¬ cuOk c then 0 else sumL c.q - c.sent
def restP (c : Cu) (d : List Int) : Pc := ⟨c.next, if c.sent = 0 then 0 else 2, 0, c.sent, d.drop c.sent.toNat⟩
def afterC (c : Cu) (d : List Int) (l : List (List Int)) (n : Int) : Cu :=
  if c.sent + n = d.length then { c with q := l, sent := 0, next := (c.next + 1) % 2 ^ c.bits.toNat } else { c with sent := c.sent + n }
def buildC (c : Cu) (size : Int) : Cu × List Int × Int :=
  if ¬ cuOk c then (c, [], 1) else if size < 0 ∨ size > 4096 then (c, [], 3) else match c.q with
    | [] => (c, [], 14)
    | d :: l => if (cutP c.bits (restP c d) size).2.2 ≠ 0 then (c, [], (cutP c.bits (restP c d) size).2.2) else
      (afterC c d l (cutP c.bits (restP c d) size).1.data.length, (encP c.bits (cutP c.bits (restP c d) size).1).1, 0)
theorem rest_ok {c : Cu} {d : List Int} {l : List (List Int)} (h : cuOk c) (hq : c.q = d :: l) : (restP c d).ok c.bits := by
  obtain ⟨hb, hn, -, hs, hd, hh⟩ := h
  have h1 := hd d (by rw [hq]; simp)
  have h2 : c.sent < d.length := by unfold headOk at hh; rw [hq] at hh; exact hh
  obtain ⟨h3, h4⟩ := h1
  have hl : (d.drop c.sent.toNat).length = d.length - c.sent.toNat := by simp
  refine ⟨hb, hn, ?_, ⟨by show (0 : Int) ≤ 0; omega, by show (0 : Int) ≤ 1; omega⟩, ?_, ⟨hs, by show c.sent ≤ 2054; omega⟩, ?_, ?_⟩
  · show 0 ≤ (if c.sent = 0 then (0 : Int) else 2) ∧ (if c.sent = 0 then (0 : Int) else 2) ≤ 3
    split <;> omega
  · show ((if c.sent = 0 then (0 : Int) else 2) = 0 ∨ (if c.sent = 0 then (0 : Int) else 2) = 1) ↔ c.sent = 0
    split <;> omega
  · show 1 ≤ (d.drop c.sent.toNat).length; omega
  · show c.sent + ((d.drop c.sent.toNat).length : Int) ≤ 2054; omega
theorem cut_ok {b : Int} {p : Pc} {size : Int} (hp : p.ok b) (he : (cutP b p size).2.2 = 0) : (cutP b p size).1.ok b ∧ (cutP b p size).1.data = p.data.take (cutP b p size).1.data.length ∧ 1 ≤ (cutP b p size).1.data.length := by
  unfold cutP at he ⊢
  rw [if_neg (by simpa using hp)] at he ⊢
  split at he
  · cases he
  · rename_i h1
    rw [if_neg h1]
    split
    · exact ⟨hp, by simp, hp.2.2.2.2.2.2.1⟩
    · rename_i h2
      obtain ⟨hb, hsn, hpt, hpo, hof, hor, hdl, hen⟩ := hp
      have hhn : headN p.part = 2 ∨ headN p.part = 4 := by unfold headN; split <;> simp
      have hlen : ((p.data.take (size - headN p.part).toNat).length : Int) = size - headN p.part := by
        rw [List.length_take]; omega
      have hbg : begins p.part = true ↔ p.off = 0 := by unfold begins; rw [decide_eq_true_iff]; exact hof
      refine ⟨⟨hb, hsn, ?_, hpo, ?_, hor, ?_, ?_⟩, ?_, ?_⟩
      · show 0 ≤ partOf (begins p.part) false ∧ partOf (begins p.part) false ≤ 3
        unfold partOf; split <;> simp
      · show (partOf (begins p.part) false = 0 ∨ partOf (begins p.part) false = 1) ↔ p.off = 0
        rw [← hbg]; unfold partOf
        cases begins p.part <;> simp
      · show 1 ≤ (p.data.take (size - headN p.part).toNat).length; omega
      · show p.off + ((p.data.take (size - headN p.part).toNat).length : Int) ≤ 2054; omega
      · show p.data.take _ = p.data.take (p.data.take _).length
        rw [List.length_take]
        rcases Nat.le_total (size - headN p.part).toNat p.data.length with h | h
        · rw [Nat.min_eq_left h]
        · rw [Nat.min_eq_right h, List.take_of_length_le h, List.take_of_length_le (Nat.le_refl _)]
      · show 1 ≤ (p.data.take (size - headN p.part).toNat).length; omega
end Go.Sx
namespace Go.Sx
open Go.RowKit
structure BL where
  d : List Int
  a : Option Addr
  c : Nat
def encBL (x : BL) : List Value := [.slice x.a x.d.length x.c]
theorem encBL_ok : Enc encBL 1 := ⟨fun _ => rfl, fun _ => rfl⟩
def DaB (L : List BL) (w : World) : Prop := ∀ x ∈ L, SlR (IntC .u8) 1 w x.a x.d ∧ x.d.length ≤ x.c
def QC (w : World) (p : Addr) (d : List Int) : Prop := ∃ a c, cellsAt w p 0 [.slice a d.length c] ∧ SlR (IntC .u8) 1 w a d ∧ d.length ≤ c
abbrev QR (w : World) (a : Option Addr) (Q : List (List Int)) : Prop := SlR QC 1 w a Q
theorem QC.keep {w w' : World} {p : Addr} {x : List Int} (h : QC w p x) (hb : Below w.heap.size w w') : QC w' p x := by
  obtain ⟨a, c, h1, h2, h3⟩ := h
  exact ⟨a, c, cellsAt_keep (fun _ _ hp _ => hb.get hp) h1, h2.below hb, h3⟩
theorem qr_below {w w' : World} {a : Option Addr} {Q : List (List Int)} (h : QR w a Q) (hb : Below w.heap.size w w') : QR w' a Q := h.keep fun _ _ hc => hc.keep hb
theorem DaB.below {w w' : World} {L : List BL} (h : DaB L w) (hb : Below w.heap.size w w') : DaB L w' := fun x hx => ⟨(h x hx).1.below hb, (h x hx).2⟩
theorem qr_up {w : World} {a : Option Addr} {Q : List (List Int)} (h : QR w a Q) : ∃ P : List BL, P.map (·.d) = Q ∧ SlR (CE encBL) 1 w a P ∧ DaB P w := by
  rcases h with rfl | ⟨b, rfl, hb⟩
  · exact ⟨[], rfl, .inl rfl, fun x hx => by simp at hx⟩
  obtain ⟨P, hP, hq⟩ := choose_list (Q := fun i (x : BL) => ∃ h : i < Q.length, x.d = Q[i] ∧ cellsAt w (b.add (i * 1)) 0 (encBL x) ∧ SlR (IntC .u8) 1 w x.a x.d ∧ x.d.length ≤ x.c) Q.length fun i hi => by
    obtain ⟨a, c, h1, h2, h3⟩ := hb i hi
    exact ⟨⟨Q[i], a, c⟩, hi, rfl, h1, h2, h3⟩
  refine ⟨P, ?_, .inr ⟨b, rfl, fun i hi => ?_⟩, fun x hx => ?_⟩
  · apply List.ext_getElem (by simpa using hP)
    intro i h1 h2
    obtain ⟨_, e, _⟩ := hq i (by simpa using h1)
    simpa using e
  · obtain ⟨_, _, e, _⟩ := hq i hi
    exact e
  · obtain ⟨i, hi, rfl⟩ := List.getElem_of_mem hx
    obtain ⟨_, _, _, e⟩ := hq i hi
    exact e
theorem up_qr {w : World} {a : Option Addr} {P : List BL} (h : SlR (CE encBL) 1 w a P) (hd : DaB P w) : QR w a (P.map (·.d)) := by
  rcases h with rfl | ⟨b, rfl, hb⟩
  · exact .inl rfl
  refine .inr ⟨b, rfl, fun i hi => ?_⟩
  have hi' : i < P.length := by simpa using hi
  rw [List.getElem_map]
  exact ⟨P[i].a, P[i].c, hb i hi', (hd _ (List.getElem_mem hi')).1, (hd _ (List.getElem_mem hi')).2⟩
end Go.Sx
namespace Go.Proofs.YtlgolgpellbnbaaGreat
open Go.Sx Go.RowKit
set_option maxRecDepth 100000
abbrev aggCu (x : Cu) (a : Option Addr) (c : Nat) : Value := .agg #[.int .i64 x.bits, .int .i64 x.next, .slice a x.q.length c, .int .i64 x.sent]
abbrev encCu (x : Cu) (a : Option Addr) (c : Nat) : List Value := [.int .i64 x.bits, .int .i64 x.next, .slice a x.q.length c, .int .i64 x.sent]
theorem unack_sized_ct {b_a : Option Addr} {d : List Int} {b_c : Nat} {w : World} :
    Calls Tryz.prog N_unack_sized #[(.slice b_a d.length b_c)] w fun e w' => e = .returned (.bool (decide (sizedB d))) ∧ Below w.heap.size w w' := by
  apply F_unack_sized_ok
  unfold F_unack_sized
  have H := St.nil w
  refine bsplit_dec (fun c => ?_) (fun c => ?_)
  · refine kLet_in ?_
    refine ⟨?_, H.below⟩
    congr 2; exact decide_eq_decide.2 ⟨fun h => ⟨by omega, by omega⟩, fun h => by have := h.2; omega⟩
  · refine ⟨?_, H.below⟩
    rw [decide_eq_false fun h : sizedB d => c (by have := h.1; omega)]
theorem unack_bitsValid_ct {bits : Int} {w : World} :
    Calls Tryz.prog N_unack_bitsValid #[(.int .i64 bits)] w fun e w' => e = .returned (.bool (decide (bitsOk bits))) ∧ Below w.heap.size w w' := by
  apply F_unack_bitsValid_ok
  unfold F_unack_bitsValid
  have H := St.nil w
  refine bsplit_dec (fun c => ?_) (fun c => ?_)
  · refine kLet_in ?_
    refine ⟨?_, H.below⟩
    congr 2; exact decide_eq_decide.2 ⟨fun h => ⟨by omega, by omega⟩, fun h => by have := h.2; omega⟩
  · refine ⟨?_, H.below⟩
    rw [decide_eq_false fun h : bitsOk bits => c (by have := h.1; omega)]
theorem ref23_bits_ct {n : Int} {w : World} :
    Calls Tryz.prog N_ref23_bits #[(.int .i64 n)] w fun e w' => e = .returned (.bool (decide (bitsOk n))) ∧ Below w.heap.size w w' := by
  apply F_ref23_bits_ok
  unfold F_ref23_bits
  have H := St.nil w
  refine bsplit_dec (fun c => ?_) (fun c => ?_)
  · refine kLet_in ?_
    refine ⟨?_, H.below⟩
    congr 2; exact decide_eq_decide.2 ⟨fun h => ⟨by omega, by omega⟩, fun h => by have := h.2; omega⟩
  · refine ⟨?_, H.below⟩
    rw [decide_eq_false fun h : bitsOk n => c (by have := h.1; omega)]
theorem clone_list {L : List BL} {s_a : Option Addr} {s_c : Nat} {w : World} (hs : SlR (CE encBL) 1 w s_a L) (hl : L.length ≤ 5864062014805) :
    Calls Tryz.prog N_slices_Clone_SSbyte_Sbyte #[(.slice s_a L.length s_c)] w fun e w' => ∃ ra rc, e = .returned (.slice ra L.length rc) ∧ FreshR w w' [.els encBL Ty_S_uint8 1 ra rc L] := by
  apply F_slices_Clone_SSbyte_Sbyte_ok
  unfold F_slices_Clone_SSbyte_Sbyte
  have H := St.nil w
  cases s_a with
  | none =>
    obtain rfl : L = [] := by
      rcases hs with h | ⟨b, hb, _⟩
      · exact h
      · cases hb
    exact ⟨none, 0, rfl, H.nilE encBL Ty_S_uint8 1⟩
  | some p =>
    refine bsplit_intro (fun h => by cases h) (fun _ => ?_)
    refine H.alloc ?_; clear H; intro b w1 H1
    have H1 := H1.litE encBL_ok (i := 0) [] rfl (by decide)
    refine H1.appE encBL_ok (i := 0) rfl sl_Ty_S_S_uint8 (hs.belowE H1.below) (by simp; omega) (by simp; omega) ?_; intro x_a x_c w2 H2
    exact ⟨x_a, x_c, rfl, H2⟩
def RetQl (w : World) (Q : List (List Int)) (e : Ending) (w' : World) : Prop :=
  ∃ a c L, L.map (·.d) = Q ∧ e = .returned (.slice a Q.length c) ∧ St (fun _ => False) [] w w' [.els encBL Ty_S_uint8 1 a c L] (DaB L)
def SmQ (Q : List (List Int)) : Prop := Q.length ≤ 5864062014805 ∧ ∀ d ∈ Q, d.length ≤ 140737488355328
theorem own_List_ct {Q : List (List Int)} {l_a : Option Addr} {l_c : Nat} {w : World} (hQ : QR w l_a Q) (hm : SmQ Q) :
    Calls Tryz.prog N_own_List #[(.slice l_a Q.length l_c)] w (RetQl w Q) := by
  apply F_own_List_ok
  unfold F_own_List
  have H := St.nil w
  obtain ⟨L0, hL0, hs0, hd0⟩ := qr_up hQ
  have hlen : L0.length = Q.length := by rw [← hL0, List.length_map]
  have hm1 := hm.1
  rw [← hlen]
  refine (clone_list hs0 (by omega)).mono ?_
  rintro _ w1 ⟨ua, uc, rfl, K⟩; have H1 := H.callR K; clear H
  simp only [List.nil_append] at H1
  refine ⟨_, _, _, rfl, ?_⟩
  refine ⟨fun x => ((L0.length - x).toNat, fun w2 => ∃ (k : Nat) (L : List BL), x = k ∧ k ≤ L0.length ∧ L.map (·.d) = Q ∧ L.drop k = L0.drop k ∧
    St (fun _ => False) [] w w2 [.els encBL Ty_S_uint8 1 ua uc L] (DaB (L.take k))), ⟨0, L0, rfl, by omega, hL0, rfl, H1.imp fun _ _ => fun x hx => by simp at hx⟩, ?_⟩
  clear H1 K
  rintro _ x w2 ⟨k, L, rfl, hk, hL, hdr, H2⟩
  have hlen2 : L.length = L0.length := by rw [hlen, ← hL, List.length_map]
  refine bsplit_dec (fun c => ?_) (fun c => ?_)
  · have hlt : k < L.length := by omega
    have hlt0 : k < L0.length := by omega
    have hx0 : L[k] = L0[k] := by
      have h1 := List.drop_eq_getElem_cons hlt
      have h2 := List.drop_eq_getElem_cons hlt0
      rw [h1, h2] at hdr
      injection hdr
    obtain ⟨x, hx⟩ : ∃ x, x = L[k] := ⟨_, rfl⟩
    have hmem : x ∈ L0 := by rw [hx, hx0]; exact List.getElem_mem _
    have hmu : x.d ∈ Q := by rw [← hL0]; exact List.mem_map.2 ⟨x, hmem, rfl⟩
    obtain ⟨g, rfl, hg1, hg2⟩ := H2.rowSome (i := 0) rfl (by omega)
    refine kIx_at ⟨by omega, by omega⟩ ?_
    rw [add_mk, Nat.zero_add, Int.toNat_natCast]
    have c1 := H2.cellEl encBL_ok (i := 0) rfl hlt (j := 0) (v := .slice x.a x.d.length x.c) (by decide) (by rw [← hx]; rfl)
    refine ⟨_, _, _, c1, ?_⟩
    refine (clone_bytes ((hd0 x hmem).1.below H2.below) (hm.2 _ hmu)).mono ?_
    rintro _ w3 ⟨ra, rc, rfl, K3⟩
    have H3 := H2.callR K3
    have hcap := H3.capI (i := 1) rfl
    replace H3 := St.shareLast (R := [.els encBL Ty_S_uint8 1 (some ⟨g, 0, none⟩) uc L]) H3
    refine ⟨_, _, _, rfl, ?_⟩
    refine kIx_at ⟨by omega, by omega⟩ ?_
    try rw [add_mk, Nat.zero_add]
    refine H3.setEl encBL_ok (i := 0) rfl hlt (j := 0) (by decide) ⟨x.d, ra, rc⟩ (by rw [← hx]; rfl) ?_
    intro w4 f4 H4
    refine kW_i64 (by omega) ?_
    refine ⟨⟨k + 1, L.set k ⟨x.d, ra, rc⟩, by omega, by omega, ?_, ?_, H4.imp fun w h => ?_⟩, by dsimp only; omega⟩
    · rw [List.map_set, hL]
      apply List.ext_getElem?
      intro i
      by_cases hi : k = i
      · subst hi
        rw [List.getElem?_set_self (by rw [← hlen, ← hlen2]; exact hlt)]
        rw [← hL, List.getElem?_map, List.getElem?_eq_getElem hlt, hx]; rfl
      · rw [List.getElem?_set_ne hi]
    · rw [drop_set_end]
      have h1 := List.drop_eq_getElem_cons hlt
      have h2 := List.drop_eq_getElem_cons hlt0
      rw [h1, h2] at hdr
      injection hdr
    · intro y hy
      rw [take_set_end hlt] at hy
      rcases List.mem_append.1 hy with hy | hy
      · exact h.2 y hy
      · obtain rfl : y = ⟨x.d, ra, rc⟩ := by simpa using hy
        exact ⟨(ints_ok h.1).sl, hcap⟩
  · have e : L.take k = L := List.take_of_length_le (by omega)
    rw [e] at H2
    exact ⟨ua, uc, L, hL, by rw [← hlen], H2⟩
def RetCu (w : World) (x : Cu) (mk : Value → Value) (e : Ending) (w' : World) : Prop :=
  ∃ a c L, L.map (·.d) = x.q ∧ e = .returned (mk (aggCu x a c)) ∧ St (fun _ => False) [] w w' [.els encBL Ty_S_uint8 1 a c L] (DaB L)
section
variable {x : Cu} {a : Option Addr} {c : Nat} {w : World}
theorem own_Cutter_ct (hQ : QR w a x.q) (hm : SmQ x.q) :
    Calls Tryz.prog N_own_Cutter #[aggCu x a c] w (RetCu w x fun v => v) := by
  apply F_own_Cutter_ok
  unfold F_own_Cutter
  have H := St.nil w
  refine H.alloc ?_; clear H; intro b w1 H1
  refine H1.alloc ?_; clear H1; intro b1 w2 H2
  refine H2.ldS (i := 0) rfl rfl ?_
  refine (own_List_ct (qr_below hQ H2.below) hm).mono ?_
  rintro _ w3 ⟨ua, uc, L, hL, rfl, K⟩; have H3 := H2.callF K; clear H2 K
  simp only [List.cons_append, List.nil_append] at H3
  refine ⟨_, _, _, rfl, ?_⟩
  refine H3.set (i := 0) rfl (by show 2 < 4; decide) ?_; clear H3; intro w4 H4
  refine ⟨_, _, _, _, _, _, H4.cells (i := 0) rfl, ?_⟩
  refine H4.store (i := 1) rfl (by rfl) (by rfl) ?_; clear H4; intro w5 H5
  refine ⟨_, _, _, _, _, _, H5.cells (i := 1) rfl, ?_⟩
  exact ⟨ua, uc, L, hL, rfl, (St.skip (X := []) (St.skip (X := []) H5)).imp fun _ h => h.1⟩
end
end Go.Proofs.YtlgolgpellbnbaaGreat
namespace Go.Proofs.YtlgolgpellbnbaaGreat
open Go.Sx Go.RowKit
set_option maxRecDepth 100000
section
variable {L : List (List Int)} {a : Option Addr} {c g : Nat} {ff fc : Array Value} {w : World}
theorem indexFuncQ_ct (hs : QR w a L) (hl : L.length ≤ 140737488355328) (p : List Int → Bool) (hok : okFn Tryz.prog g = true)
    (hf : ∀ (w' : World) (x : List Int) (a1 : Option Addr) (c1 : Nat), x ∈ L → Below w.heap.size w w' → Calls Tryz.prog g (ff ++ #[.slice a1 x.length c1] ++ fc) w' fun e w'' => e = .returned (.bool (p x)) ∧ Below w'.heap.size w' w'') :
    Calls Tryz.prog N_slices_IndexFunc_SSbyte_Sbyte #[(.slice a L.length c), .func (.func g) ff fc] w fun e w' => e = .returned (.int .i64 (idx p L)) ∧ Below w.heap.size w w' := by
  apply F_slices_IndexFunc_SSbyte_Sbyte_ok
  unfold F_slices_IndexFunc_SSbyte_Sbyte
  have H := St.nil w
  refine ⟨fun x => ((L.length - x).toNat, fun w1 => ∃ k : Nat, x = k ∧ k ≤ L.length ∧ (∀ j (hj : j < L.length), j < k → p L[j] = false) ∧ FreshR w w1 []), ⟨0, rfl, by omega, fun j _ h => by omega, H⟩, ?_⟩
  clear H
  rintro _ x w1 ⟨k, rfl, hk, hno, H1⟩
  refine bsplit_dec (fun c1 => ?_) (fun c1 => ?_)
  · have hlt : k < L.length := by omega
    refine ixE (qr_below hs H1.below) k rfl hlt fun b x hx hb => ?_
    obtain rfl : L[k] = x := by rw [List.getElem?_eq_getElem hlt] at hx; exact Option.some.inj hx
    obtain ⟨a1, c1, hb, _, _⟩ := hb
    refine ⟨_, _, _, hb.1, ?_⟩
    refine ⟨hok, ?_⟩
    refine (hf w1 _ a1 c1 (List.getElem_mem hlt) H1.below).mono ?_
    rintro _ w2 ⟨rfl, hb2⟩; have H2 := H1.pass hb2; clear H1
    refine ⟨_, rfl, ?_⟩
    refine bsplit_intro (fun c => ?_) (fun c => ?_)
    · exact ⟨by rw [idx_at hlt hno c], H2.below⟩
    · refine kW_i64 (by omega) ?_
      exact ⟨⟨k + 1, by omega, by omega, fun j hj h => by
        rcases Nat.lt_or_ge j k with h' | h'
        · exact hno j hj h'
        · obtain rfl : j = k := by omega
          exact c, H2⟩, by dsimp only; omega⟩
  · obtain rfl : k = L.length := by omega
    exact ⟨by rw [idx_no fun j hj => hno j hj hj], H1.below⟩
theorem containsFuncQ_ct (hs : QR w a L) (hl : L.length ≤ 140737488355328) (p : List Int → Bool) (hok : okFn Tryz.prog g = true)
    (hf : ∀ (w' : World) (x : List Int) (a1 : Option Addr) (c1 : Nat), x ∈ L → Below w.heap.size w w' → Calls Tryz.prog g (ff ++ #[.slice a1 x.length c1] ++ fc) w' fun e w'' => e = .returned (.bool (p x)) ∧ Below w'.heap.size w' w'') :
    Calls Tryz.prog N_slices_ContainsFunc_SSbyte_Sbyte #[(.slice a L.length c), .func (.func g) ff fc] w fun e w' => e = .returned (.bool (L.any p)) ∧ Below w.heap.size w w' := by
  apply F_slices_ContainsFunc_SSbyte_Sbyte_ok
  unfold F_slices_ContainsFunc_SSbyte_Sbyte
  refine (indexFuncQ_ct hs hl p hok hf).mono ?_
  rintro _ w1 ⟨rfl, hb1⟩
  refine ⟨_, rfl, ?_⟩
  refine kLet_in ?_
  exact ⟨by rw [idx_any], hb1⟩
end
theorem valid_1_ct {d : List Int} {a : Option Addr} {c : Nat} {w : World} :
    Calls Tryz.prog N_unack_Valid_1 #[(.slice a d.length c)] w fun e w' => e = .returned (.bool (!decide (sizedB d))) ∧ Below w.heap.size w w' := by
  apply F_unack_Valid_1_ok
  unfold F_unack_Valid_1
  refine unack_sized_ct.mono ?_
  rintro _ w1 ⟨rfl, hb1⟩
  refine ⟨_, rfl, ?_⟩
  exact ⟨rfl, hb1⟩
section
variable {x : Cu} {a : Option Addr} {c : Nat} {w : World}
theorem unack_Valid_ct (hQ : QR w a x.q) (hm : SmQ x.q) :
    Calls Tryz.prog N_unack_Valid #[aggCu x a c] w fun e w' => e = .returned (.bool (decide (cuOk x))) ∧ Below w.heap.size w w' := by
  apply F_unack_Valid_ok
  unfold F_unack_Valid
  have H := St.nil w
  refine H.alloc ?_; clear H; intro b w1 H1
  refine ⟨fun x6 w4 => (x6 = true ↔ ¬ (bitsOk x.bits ∧ (0 ≤ x.next ∧ x.next < 2 ^ x.bits.toNat) ∧ x.q.length ≤ 256 ∧ 0 ≤ x.sent)) ∧ FreshR w w4 [.blk b Ty_api_Cutter (encCu x a c)], ?_, ?_⟩
  · rintro _ x6 w4 ⟨hj, H4⟩
    refine bsplit_intro (fun c7 => ?_) (fun c7 => ?_)
    · refine ⟨?_, H4.below⟩
      rw [decide_eq_false fun h : cuOk x => hj.1 c7 ⟨h.1, h.2.1, h.2.2.1, h.2.2.2.1⟩]
    · have hh : bitsOk x.bits ∧ (0 ≤ x.next ∧ x.next < 2 ^ x.bits.toNat) ∧ x.q.length ≤ 256 ∧ 0 ≤ x.sent := by
        rw [c7] at hj
        by_cases h : bitsOk x.bits ∧ (0 ≤ x.next ∧ x.next < 2 ^ x.bits.toNat) ∧ x.q.length ≤ 256 ∧ 0 ≤ x.sent
        · exact h
        · exact absurd (hj.2 h) (by decide)
      obtain ⟨h1, h2, h3, h4⟩ := hh
      refine H4.ldS (i := 0) rfl rfl ?_
      refine (containsFuncQ_ct (ff := #[]) (fc := #[]) (qr_below hQ H4.below) (by omega) (fun d => !decide (sizedB d)) (by kernel_rfl) fun w' d a1 c1 _ _ => valid_1_ct).mono ?_
      rintro _ w5 ⟨rfl, hb5⟩; have H5 := H4.pass hb5; clear H4
      refine ⟨_, rfl, ?_⟩
      refine bsplit_intro (fun c6 => ?_) (fun c6 => ?_)
      · refine ⟨?_, H5.below⟩
        obtain ⟨d, hd, hd2⟩ := List.any_eq_true.1 c6
        rw [decide_eq_false fun h : cuOk x => by
          have := h.2.2.2.2.1 d hd
          simp [this] at hd2]
      · have h5 : ∀ d ∈ x.q, sizedB d := fun d hd => by
          have := List.any_eq_false.1 c6 d hd
          simpa using this
        refine H5.drew ?_; clear H5; intro w6 H6
        refine H6.ld (i := 0) rfl rfl ?_
        refine bsplit_dec (fun c5 => ?_) (fun c5 => ?_)
        · refine ⟨?_, H6.below⟩
          rw [decide_eq_true (show cuOk x from ⟨h1, h2, h3, h4, h5, by
            unfold headOk
            cases hq : x.q with
            | nil => exact c5
            | cons d l => have := (h5 d (by rw [hq]; simp)).1; show x.sent < d.length; omega⟩)]
        · refine H6.ldS (i := 0) rfl rfl ?_
          refine bsplit_dec (fun c4 => ?_) (fun c4 => ?_)
          · refine H6.ld (i := 0) rfl rfl ?_
            refine H6.ldS (i := 0) rfl rfl ?_
            refine ixE (qr_below hQ H6.below) 0 rfl (by omega) fun b1 d hd hb1 => ?_
            obtain ⟨a1, c1, hb, _, _⟩ := hb1
            refine ⟨_, _, _, hb.1, ?_⟩
            refine kLet_in ?_
            refine ⟨?_, H6.below⟩
            congr 2
            refine decide_eq_decide.2 ⟨fun h => ⟨h1, h2, h3, h4, h5, ?_⟩, fun h => ?_⟩
            · unfold headOk
              cases hq : x.q with
              | nil => rw [hq] at hd; simp at hd
              | cons e l => rw [hq] at hd; obtain rfl : e = d := by simpa using hd
                            exact h
            · have h := h.2.2.2.2.2
              unfold headOk at h
              cases hq : x.q with
              | nil => rw [hq] at hd; simp at hd
              | cons e l => rw [hq] at hd h; obtain rfl : e = d := by simpa using hd
                            exact h
          · refine ⟨?_, H6.below⟩
            rw [decide_eq_false fun h : cuOk x => by
              have h := h.2.2.2.2.2
              unfold headOk at h
              have hq : x.q = [] := List.eq_nil_of_length_eq_zero (by omega)
              rw [hq] at h
              exact c5 h]
  · refine H1.drew ?_; clear H1; intro w2 H2
    refine ⟨(· < w2.heap.size), ?_⟩
    refine H2.ld (i := 0) rfl rfl ?_
    refine unack_bitsValid_ct.mono ?_
    rintro _ w3 ⟨rfl, hb3⟩; have H3 := H2.pass hb3
    refine ⟨_, rfl, ?_⟩
    refine ⟨hb3.keeps, ?_⟩
    refine bsplit_nd (fun c3 => ?_) (fun c3 => ?_)
    · exact ⟨⟨fun _ h => c3 h.1, fun _ => rfl⟩, H3⟩
    · obtain ⟨hb1, hb2⟩ := c3
      have c3 : bitsOk x.bits := ⟨hb1, hb2⟩
      refine ⟨H2.lt (i := 0) rfl rfl, ?_⟩
      refine H2.ld (i := 0) rfl rfl ?_
      refine bsplit_dec (fun c2 => ?_) (fun c2 => ?_)
      · exact ⟨⟨fun _ h => by have := h.2.1.1; omega, fun _ => rfl⟩, H3⟩
      · refine ⟨H2.lt (i := 0) rfl rfl, ?_⟩
        refine H2.ld (i := 0) rfl rfl ?_
        refine ⟨H2.lt (i := 0) rfl rfl, ?_⟩
        refine H2.ld (i := 0) rfl rfl ?_
        refine ⟨by omega, ?_⟩
        refine kShl1 (by omega) ?_
        refine bsplit_dec (fun c1 => ?_) (fun c1 => ?_)
        · exact ⟨⟨fun _ h => by have := h.2.1.2; omega, fun _ => rfl⟩, H3⟩
        · refine ⟨H2.lt (i := 0) rfl rfl, ?_⟩
          refine H2.ldS (i := 0) rfl rfl ?_
          refine bsplit_dec (fun c => ?_) (fun c => ?_)
          · exact ⟨⟨fun _ h => by have := h.2.2.1; omega, fun _ => rfl⟩, H3⟩
          · refine ⟨H2.lt (i := 0) rfl rfl, ?_⟩
            refine H2.ld (i := 0) rfl rfl ?_
            exact ⟨⟨fun h hh => by have := hh.2.2.2; have := of_decide_eq_true h; omega, fun h => decide_eq_true (by
              rcases Int.lt_or_le x.sent 0 with h' | h'
              · exact h'
              · exact absurd ⟨c3, ⟨by omega, by omega⟩, by omega, h'⟩ h)⟩, H3⟩
theorem unack_Waiting_ct (hQ : QR w a x.q) (hm : SmQ x.q) :
    Calls Tryz.prog N_unack_Waiting #[aggCu x a c] w fun e w' => e = .returned (.int .i64 (waitC x)) ∧ Below w.heap.size w w' := by
  apply F_unack_Waiting_ok
  unfold F_unack_Waiting
  have H := St.nil w
  refine H.alloc ?_; clear H; intro b w1 H1
  refine ⟨_, _, _, _, _, _, H1.cells (i := 0) rfl, ?_⟩
  refine (unack_Valid_ct (qr_below hQ H1.below) hm).mono ?_
  rintro _ w2 ⟨rfl, hb2⟩; have H2 := H1.pass hb2; clear H1
  refine ⟨_, rfl, ?_⟩
  refine bsplit_nd (fun c1 => ?_) (fun c1 => ?_)
  · exact ⟨by unfold waitC; rw [if_pos c1], H2.below⟩
  · have hk := wait_fit c1
    have hq256 : x.q.length ≤ 256 := c1.2.2.1
    refine H2.ld (i := 0) rfl rfl ?_
    refine kW_i64 (by have := hk.1; omega) ?_
    refine H2.ldS (i := 0) rfl rfl ?_
    refine ⟨fun n x2 => ((x.q.length - x2).toNat, fun w3 => ∃ k : Nat, x2 = k ∧ k ≤ x.q.length ∧ n = sumL (x.q.take k) - x.sent ∧ FreshR w w3 [.blk b Ty_api_Cutter (encCu x a c)]), ⟨0, rfl, by omega, by simp [sumL], H2⟩, ?_⟩
    clear H2
    rintro _ n x2 w3 ⟨k, rfl, hk1, rfl, H3⟩
    refine bsplit_dec (fun c2 => ?_) (fun c2 => ?_)
    · have hlt : k < x.q.length := by omega
      refine ixE (qr_below hQ H3.below) k rfl hlt fun b1 d hd hb1 => ?_
      obtain rfl : x.q[k] = d := by rw [List.getElem?_eq_getElem hlt] at hd; exact Option.some.inj hd
      obtain ⟨a1, c1', hb, _, _⟩ := hb1
      refine ⟨_, _, _, hb.1, ?_⟩
      have e : sumL (x.q.take (k + 1)) = sumL (x.q.take k) + x.q[k].length := by rw [List.take_succ_eq_append_getElem hlt, sumL_snoc]
      have h1 := hk.2 (k + 1)
      have h2 := hk.2 k
      have h3 := sumL_nn (x.q.take k)
      refine kW_i64 (by omega) ?_
      refine kW_i64 (by omega) ?_
      exact ⟨⟨k + 1, by omega, by omega, by rw [e]; omega, H3⟩, by dsimp only; omega⟩
    · obtain rfl : k = x.q.length := by omega
      rw [List.take_length]
      exact ⟨by unfold waitC; rw [if_neg (fun h => h c1)], H3.below⟩
theorem ref23_Valid_ct (hQ : QR w a x.q) (hm : SmQ x.q) :
    Calls Tryz.prog N_ref23_Valid #[aggCu x a c] w fun e w' => e = .returned (.bool (decide (cuOk x))) ∧ Below w.heap.size w w' := by
  apply F_ref23_Valid_ok
  unfold F_ref23_Valid
  have H := St.nil w
  refine H.alloc ?_; clear H; intro b w1 H1
  refine ⟨fun x6 w4 => (x6 = true ↔ ¬ (bitsOk x.bits ∧ (0 ≤ x.next ∧ x.next < 2 ^ x.bits.toNat) ∧ x.q.length ≤ 256 ∧ 0 ≤ x.sent)) ∧ FreshR w w4 [.blk b Ty_api_Cutter (encCu x a c)], ?_, ?_⟩
  · rintro _ x6 w4 ⟨hj, H4⟩
    refine bsplit_intro (fun c7 => ?_) (fun c7 => ?_)
    · refine ⟨?_, H4.below⟩
      rw [decide_eq_false fun h : cuOk x => hj.1 c7 ⟨h.1, h.2.1, h.2.2.1, h.2.2.2.1⟩]
    · have hh : bitsOk x.bits ∧ (0 ≤ x.next ∧ x.next < 2 ^ x.bits.toNat) ∧ x.q.length ≤ 256 ∧ 0 ≤ x.sent := by
        rw [c7] at hj
        by_cases h : bitsOk x.bits ∧ (0 ≤ x.next ∧ x.next < 2 ^ x.bits.toNat) ∧ x.q.length ≤ 256 ∧ 0 ≤ x.sent
        · exact h
        · exact absurd (hj.2 h) (by decide)
      obtain ⟨h1, h2, h3, h4⟩ := hh
      refine ⟨fun i => ((x.q.length - i).toNat, fun w4 => ∃ k : Nat, i = k ∧ k ≤ x.q.length ∧ (∀ j (hj : j < x.q.length), j < k → sizedB x.q[j]) ∧ FreshR w w4 [.blk b Ty_api_Cutter (encCu x a c)]), ⟨0, rfl, by omega, fun j _ h => by omega, H4⟩, ?_⟩
      clear H4
      rintro _ i w4 ⟨k, rfl, hk, hno, H4⟩
      refine H4.ldS (i := 0) rfl rfl ?_
      refine bsplit_dec (fun c7 => ?_) (fun c7 => ?_)
      · have hlt : k < x.q.length := by omega
        refine H4.ldS (i := 0) rfl rfl ?_
        refine ixE (qr_below hQ H4.below) k rfl hlt fun b1 d hd hb1 => ?_
        obtain rfl : x.q[k] = d := by rw [List.getElem?_eq_getElem hlt] at hd; exact Option.some.inj hd
        obtain ⟨a1, c1', hb, _, _⟩ := hb1
        refine ⟨_, _, _, hb.1, ?_⟩
        refine bsplit_dec (fun c5 => ?_) (fun c5 => ?_)
        · refine ⟨?_, H4.below⟩
          rw [decide_eq_false fun h : cuOk x => by have := (h.2.2.2.2.1 _ (List.getElem_mem hlt)).1; omega]
        · refine H4.ldS (i := 0) rfl rfl ?_
          refine ixE (qr_below hQ H4.below) k rfl hlt fun b2 d2 hd2 hb2 => ?_
          obtain rfl : x.q[k] = d2 := by rw [List.getElem?_eq_getElem hlt] at hd2; exact Option.some.inj hd2
          obtain ⟨a2, c2', hb2, _, _⟩ := hb2
          refine ⟨_, _, _, hb2.1, ?_⟩
          refine bsplit_dec (fun c4 => ?_) (fun c4 => ?_)
          · refine ⟨?_, H4.below⟩
            rw [decide_eq_false fun h : cuOk x => by have := (h.2.2.2.2.1 _ (List.getElem_mem hlt)).2; omega]
          · refine kW_i64 (by omega) ?_
            exact ⟨⟨k + 1, by omega, by omega, fun j hj h => by
              rcases Nat.lt_or_ge j k with h' | h'
              · exact hno j hj h'
              · obtain rfl : j = k := by omega
                exact ⟨by omega, by omega⟩, H4⟩, by dsimp only; omega⟩
      · obtain rfl : k = x.q.length := by omega
        have h5 : ∀ d ∈ x.q, sizedB d := fun d hd => by
          obtain ⟨j, hj, rfl⟩ := List.getElem_of_mem hd
          exact hno j hj hj
        refine H4.ldS (i := 0) rfl rfl ?_
        refine bsplit_dec (fun c6 => ?_) (fun c6 => ?_)
        · refine H4.ld (i := 0) rfl rfl ?_
          refine kLet_in ?_
          refine ⟨?_, H4.below⟩
          have hq : x.q = [] := List.eq_nil_of_length_eq_zero (by omega)
          congr 2
          refine decide_eq_decide.2 ⟨fun h => ⟨h1, h2, h3, h4, h5, ?_⟩, fun h => ?_⟩
          · unfold headOk; rw [hq]; exact h
          · have h := h.2.2.2.2.2
            unfold headOk at h; rw [hq] at h; exact h
        · refine H4.drew ?_; clear H4; intro w5 H5
          refine H5.ld (i := 0) rfl rfl ?_
          refine H5.ldS (i := 0) rfl rfl ?_
          refine ixE (qr_below hQ H5.below) 0 rfl (by omega) fun b1 d hd hb1 => ?_
          obtain ⟨a1, c1', hb, _, _⟩ := hb1
          refine ⟨_, _, _, hb.1, ?_⟩
          refine kLet_in ?_
          refine ⟨?_, H5.below⟩
          congr 2
          refine decide_eq_decide.2 ⟨fun h => ⟨h1, h2, h3, h4, h5, ?_⟩, fun h => ?_⟩
          · unfold headOk
            cases hq : x.q with
            | nil => rw [hq] at hd; simp at hd
            | cons e l => rw [hq] at hd; obtain rfl : e = d := by simpa using hd
                          exact h
          · have h := h.2.2.2.2.2
            unfold headOk at h
            cases hq : x.q with
            | nil => rw [hq] at hd; simp at hd
            | cons e l => rw [hq] at hd h; obtain rfl : e = d := by simpa using hd
                          exact h
  · refine H1.ld (i := 0) rfl rfl ?_
    refine ref23_bits_ct.mono ?_
    rintro _ w2 ⟨rfl, hb2⟩; have H2 := H1.pass hb2; clear H1
    refine ⟨_, rfl, ?_⟩
    refine bsplit_nd (fun c3 => ?_) (fun c3 => ?_)
    · exact ⟨⟨fun _ h => c3 h.1, fun _ => rfl⟩, H2⟩
    · obtain ⟨hb1, hb2⟩ := c3
      have c3 : bitsOk x.bits := ⟨hb1, hb2⟩
      refine H2.ld (i := 0) rfl rfl ?_
      refine bsplit_dec (fun c2 => ?_) (fun c2 => ?_)
      · exact ⟨⟨fun _ h => by have := h.2.1.1; omega, fun _ => rfl⟩, H2⟩
      · refine H2.ld (i := 0) rfl rfl ?_
        refine H2.ld (i := 0) rfl rfl ?_
        refine kW_u64 (by omega) ?_
        refine ⟨by omega, ?_⟩
        refine kShl1 (by omega) ?_
        refine bsplit_dec (fun c1 => ?_) (fun c1 => ?_)
        · exact ⟨⟨fun _ h => by have := h.2.1.2; omega, fun _ => rfl⟩, H2⟩
        · refine H2.ldS (i := 0) rfl rfl ?_
          refine bsplit_dec (fun c => ?_) (fun c => ?_)
          · exact ⟨⟨fun _ h => by have := h.2.2.1; omega, fun _ => rfl⟩, H2⟩
          · refine H2.ld (i := 0) rfl rfl ?_
            exact ⟨⟨fun h hh => by have := hh.2.2.2; have := of_decide_eq_true h; omega, fun h => decide_eq_true (by
              rcases Int.lt_or_le x.sent 0 with h' | h'
              · exact h'
              · exact absurd ⟨c3, ⟨by omega, by omega⟩, by omega, h'⟩ h)⟩, H2⟩
theorem ref23_Waiting_ct (hQ : QR w a x.q) (hm : SmQ x.q) :
    Calls Tryz.prog N_ref23_Waiting #[aggCu x a c] w fun e w' => e = .returned (.int .i64 (waitC x)) ∧ Below w.heap.size w w' := by
  apply F_ref23_Waiting_ok
  unfold F_ref23_Waiting
  have H := St.nil w
  refine H.alloc ?_; clear H; intro b w1 H1
  refine ⟨_, _, _, _, _, _, H1.cells (i := 0) rfl, ?_⟩
  refine (ref23_Valid_ct (qr_below hQ H1.below) hm).mono ?_
  rintro _ w2 ⟨rfl, hb2⟩; have H2 := H1.pass hb2; clear H1
  refine ⟨_, rfl, ?_⟩
  refine bsplit_nd (fun c1 => ?_) (fun c1 => ?_)
  · exact ⟨by unfold waitC; rw [if_pos c1], H2.below⟩
  · have hk := wait_fit c1
    have hq256 : x.q.length ≤ 256 := c1.2.2.1
    refine H2.ld (i := 0) rfl rfl ?_
    refine kW_i64 (by have := hk.1; omega) ?_
    refine ⟨fun n x2 => ((x.q.length - x2).toNat, fun w3 => ∃ k : Nat, x2 = k ∧ k ≤ x.q.length ∧ n = sumL (x.q.take k) - x.sent ∧ FreshR w w3 [.blk b Ty_api_Cutter (encCu x a c)]), ⟨0, rfl, by omega, by simp [sumL], H2⟩, ?_⟩
    clear H2
    rintro _ n x2 w3 ⟨k, rfl, hk1, rfl, H3⟩
    refine H3.ldS (i := 0) rfl rfl ?_
    refine bsplit_dec (fun c2 => ?_) (fun c2 => ?_)
    · have hlt : k < x.q.length := by omega
      refine H3.ldS (i := 0) rfl rfl ?_
      refine ixE (qr_below hQ H3.below) k rfl hlt fun b1 d hd hb1 => ?_
      obtain rfl : x.q[k] = d := by rw [List.getElem?_eq_getElem hlt] at hd; exact Option.some.inj hd
      obtain ⟨a1, c1', hb, _, _⟩ := hb1
      refine ⟨_, _, _, hb.1, ?_⟩
      have e : sumL (x.q.take (k + 1)) = sumL (x.q.take k) + x.q[k].length := by rw [List.take_succ_eq_append_getElem hlt, sumL_snoc]
      have h1 := hk.2 (k + 1)
      have h2 := hk.2 k
      have h3 := sumL_nn (x.q.take k)
      refine kW_i64 (by omega) ?_
      refine kW_i64 (by omega) ?_
      exact ⟨⟨k + 1, by omega, by omega, by rw [e]; omega, H3⟩, by dsimp only; omega⟩
    · obtain rfl : k = x.q.length := by omega
      rw [List.take_length]
      exact ⟨by unfold waitC; rw [if_neg (fun h => h c1)], H3.below⟩
end
end Go.Proofs.YtlgolgpellbnbaaGreat
namespace Go.Proofs.YtlgolgpellbnbaaGreat
open Go.Sx Go.RowKit
set_option maxRecDepth 100000
def RetCF (w : World) (x : Cu) (mk : Value → Value) (e : Ending) (w' : World) : Prop :=
  ∃ a c, e = .returned (mk (aggCu x a c)) ∧ Fresh w w' fun w => QR w a x.q
abbrev QL (L : List BL) (a : Option Addr) (w : World) : Prop := SlR (CE encBL) 1 w a L ∧ DaB L w
theorem QL.qr {L : List BL} {a : Option Addr} {w : World} (h : QL L a w) : QR w a (L.map (·.d)) := up_qr h.1 h.2
def RetCA (A : Nat → Prop) (w : World) (x : Cu) (mk : Value → Value) (e : Ending) (w' : World) : Prop :=
  ∃ a c L, L.map (·.d) = x.q ∧ e = .returned (mk (aggCu x a c)) ∧ x.q.length ≤ c ∧ St A [] w w' [] fun w => QL L a w
section
variable {x : Cu} {a : Option Addr} {c : Nat} {w : World} {d : List Int} {da : Option Addr} {dc : Nat}
theorem unack_Submit_ct (hQ : QR w a x.q) (hm : SmQ x.q) (hd : SlR (IntC .u8) 1 w da d) (hdl : d.length ≤ 140737488355328) :
    Calls Tryz.prog N_unack_Submit #[aggCu x a c, .slice da d.length dc] w (RetCF w (subC x d).1 fun v => .tuple #[v, .int .i64 (subC x d).2]) := by
  apply F_unack_Submit_ok
  unfold F_unack_Submit
  have H := St.nil w
  refine H.alloc ?_; clear H; intro b w1 H1
  refine H1.alloc ?_; clear H1; intro b1 w2 H2
  refine ⟨_, _, _, _, _, _, H2.cells (i := 0) rfl, ?_⟩
  refine (own_Cutter_ct (qr_below hQ H2.below) hm).mono ?_
  rintro _ w3 ⟨ua, uc, L, hL, rfl, K⟩; have H3 := H2.callF K; clear H2 K
  have hLl : L.length = x.q.length := by rw [← hL, List.length_map]
  refine ⟨_, _, _, _, _, _, rfl, ?_⟩
  refine H3.alloc ?_; clear H3; intro b2 w4 H4
  simp only [List.cons_append, List.nil_append] at H4
  refine H4.store (i := 3) rfl (by rfl) (by rfl) ?_; clear H4; intro w5 H5
  replace H5 : St (fun _ => False) [] w w5 [.blk b Ty_api_Cutter (encCu x a c), .blk b1 Ty_api_Cutter [.int .i64 0, .int .i64 0, .slice none 0 0, .int .i64 0], .els encBL Ty_S_uint8 1 ua uc L, .blk b2 Ty_api_Cutter (encCu x ua uc)] (DaB L) := H5.imp fun _ h => h.1
  refine ⟨_, _, _, _, _, _, H5.cells (i := 0) rfl, ?_⟩
  refine (unack_Valid_ct (qr_below hQ H5.below) hm).mono ?_
  rintro _ w6 ⟨rfl, hb6⟩; have H6 := H5.pass hb6; clear H5
  refine ⟨_, rfl, ?_⟩
  have fin : ∀ {w' : World} {T : List Res} {E : Int}, (subC x d) = (x, E) → St (fun _ => False) [] w w' (.blk b Ty_api_Cutter (encCu x a c) :: .blk b1 Ty_api_Cutter [.int .i64 0, .int .i64 0, .slice none 0 0, .int .i64 0] :: .els encBL Ty_S_uint8 1 ua uc L :: .blk b2 Ty_api_Cutter (encCu x ua uc) :: T) (DaB L) →
      sxStore w' ⟨b1, 0, none⟩ 0 (encCu x ua uc) fun w7 => ∃ x_0 x_1 x_a x_l x_c x_3, cellsAt w7 ⟨b1, 0, none⟩ 0 [.int .i64 x_0, .int .i64 x_1, .slice x_a x_l x_c, .int .i64 x_3] ∧
        RetCF w (subC x d).1 (fun v => .tuple #[v, .int .i64 (subC x d).2]) (.returned (.tuple #[.agg #[.int .i64 x_0, .int .i64 x_1, .slice x_a x_l x_c, .int .i64 x_3], .int .i64 E])) w7 := fun {w' T E} hE H => by
    refine H.store (i := 1) rfl (by rfl) (by rfl) ?_; intro w7 H7
    refine ⟨_, _, _, _, _, _, H7.cells (i := 1) rfl, ?_⟩
    rw [hE]
    refine ⟨ua, uc, rfl, ?_⟩
    have K := (H7.shareE encBL_ok (i := 2) rfl).fin
    exact K.imp fun _ h => by rw [← hL]; exact up_qr h.1 h.2
  refine bsplit_nd (fun c2 => ?_) (fun c2 => ?_)
  · refine ⟨_, _, _, _, _, _, H6.cells (i := 3) rfl, ?_⟩
    exact fin (by unfold subC; rw [if_pos c2]) H6
  · refine unack_sized_ct.mono ?_
    rintro _ w8 ⟨rfl, hb8⟩; have H8 := H6.pass hb8; clear H6
    refine ⟨_, rfl, ?_⟩
    refine bsplit_nd (fun c1 => ?_) (fun c1 => ?_)
    · refine ⟨_, _, _, _, _, _, H8.cells (i := 3) rfl, ?_⟩
      exact fin (by unfold subC; rw [if_neg (fun h => h c2), if_pos c1]) H8
    · refine H8.ldS (i := 0) rfl rfl ?_
      refine kLet_in ?_
      refine bsplit_dec (fun c0 => ?_) (fun c0 => ?_)
      · refine ⟨_, _, _, _, _, _, H8.cells (i := 3) rfl, ?_⟩
        exact fin (by unfold subC; rw [if_neg (fun h => h c2), if_neg (fun h => h c1), if_pos (by omega)]) H8
      · have hE : subC x d = ({ x with q := x.q ++ [d] }, 0) := by unfold subC; rw [if_neg (fun h => h c2), if_neg (fun h => h c1), if_neg (by omega)]
        have hq256 := c2.2.2.1
        refine H8.drew ?_; clear H8; intro w11 H11
        refine ⟨fun z => z = b2, ?_⟩
        refine ⟨rfl, ?_⟩
        refine H11.ldS (i := 3) rfl rfl ?_
        refine (clone_bytes (hd.below H11.below) hdl).mono ?_
        rintro _ w12 ⟨ra, rc, rfl, K⟩
        have H12 := H11.callR K
        have hcap := H12.capI (i := 4) rfl
        replace H12 := St.shareLast (R := [_, _, _, _]) H12
        refine ⟨_, _, _, rfl, ?_⟩
        refine ⟨keepB1 (H11.ok 3 _ rfl) (H12.ok 3 _ rfl), ?_⟩
        refine H12.allocB ?_; intro b3 w13 hb13 H13
        simp only [List.cons_append, List.nil_append] at H13
        refine ⟨keepB1 (H11.ok 3 _ rfl) (H13.ok 3 _ rfl), ?_⟩
        rw [← hLl]
        refine H13.appEB encBL_ok (i := 2) (j := 4) rfl [⟨d, ra, rc⟩] rfl sl_Ty_S_S_uint8 rfl (by simp; omega) (by simp; omega) ?_; intro x_a2 x_c2 w14 H14
        simp only [List.set_cons_succ, List.set_cons_zero] at H14
        refine H14.set (i := 3) rfl (by show 2 < 4; decide) ?_; intro w15 H15
        simp only [List.set_cons_succ, List.set_cons_zero] at H15
        refine ⟨_, _, _, _, _, _, H15.cells (i := 3) rfl, ?_⟩
        refine H15.store (i := 1) rfl (by rfl) (by rfl) ?_; clear H15; intro w16 H16
        refine ⟨_, _, _, _, _, _, H16.cells (i := 1) rfl, ?_⟩
        rw [hE]
        have eq : (L ++ [(⟨d, ra, rc⟩ : BL)]).map (·.d) = x.q ++ [d] := by rw [List.map_append, hL]; rfl
        have el : (L ++ [(⟨d, ra, rc⟩ : BL)]).length = (x.q ++ [d]).length := by rw [← eq, List.length_map]
        refine ⟨x_a2, x_c2, ?_, ?_⟩
        · rw [el]
        · have K := (H16.shareE encBL_ok (i := 2) rfl).fin
          refine K.imp fun w h => ?_
          show QR w x_a2 (x.q ++ [d])
          rw [← eq]
          refine up_qr h.1 fun y hy => ?_
          rcases List.mem_append.1 hy with hy | hy
          · exact h.2.2 y hy
          · obtain rfl : y = ⟨d, ra, rc⟩ := by simpa using hy
            exact ⟨(ints_ok h.2.1).sl, hcap⟩
theorem ref23_Submit_ct {A : Nat → Prop} {L : List BL} (hL : L.map (·.d) = x.q) (hQ : Held A w (QL L a)) (hm : SmQ x.q) (hxc : x.q.length ≤ c) (hd : SlR (IntC .u8) 1 w da d) (hdl : d.length ≤ 140737488355328) :
    Calls Tryz.prog N_ref23_Submit #[aggCu x a c, .slice da d.length dc] w (RetCA A w (subC x d).1 fun v => .tuple #[v, .int .i64 (subC x d).2]) := by
  apply F_ref23_Submit_ok
  unfold F_ref23_Submit
  have H := St.start hQ
  have hq : ∀ {w}, QL L a w → QR w a x.q := fun h => by rw [← hL]; exact h.qr
  have hLl : L.length = x.q.length := by rw [← hL, List.length_map]
  refine H.alloc ?_; clear H; intro b w1 H1
  refine H1.alloc ?_; clear H1; intro b1 w2 H2
  refine ⟨_, _, _, _, _, _, H2.cells (i := 0) rfl, ?_⟩
  refine (ref23_Valid_ct (hq H2.get) hm).mono ?_
  rintro _ w3 ⟨rfl, hb3⟩; have H3 := H2.pass hb3; clear H2
  refine ⟨_, rfl, ?_⟩
  replace H3 : St A [] w w3 [.blk b Ty_api_Cutter (encCu x a c), .blk b1 Ty_api_Cutter [.int .i64 0, .int .i64 0, .slice none 0 0, .int .i64 0]] (QL L a) := H3
  have fin : ∀ {w' : World} {T : List Res} {E : Int}, (subC x d) = (x, E) → St A [] w w' (.blk b Ty_api_Cutter (encCu x a c) :: .blk b1 Ty_api_Cutter [.int .i64 0, .int .i64 0, .slice none 0 0, .int .i64 0] :: T) (QL L a) →
      sxStore w' ⟨b1, 0, none⟩ 0 (encCu x a c) fun w7 => ∃ x_0 x_1 x_a x_l x_c x_3, cellsAt w7 ⟨b1, 0, none⟩ 0 [.int .i64 x_0, .int .i64 x_1, .slice x_a x_l x_c, .int .i64 x_3] ∧
        RetCA A w (subC x d).1 (fun v => .tuple #[v, .int .i64 (subC x d).2]) (.returned (.tuple #[.agg #[.int .i64 x_0, .int .i64 x_1, .slice x_a x_l x_c, .int .i64 x_3], .int .i64 E])) w7 := fun {w' T E} hE H => by
    refine H.store (i := 1) rfl (by rfl) (by rfl) ?_; intro w7 H7
    refine ⟨_, _, _, _, _, _, H7.cells (i := 1) rfl, ?_⟩
    rw [hE]
    exact ⟨a, c, L, hL, rfl, hxc, H7.fin⟩
  refine bsplit_nd (fun c3 => ?_) (fun c3 => ?_)
  · refine ⟨_, _, _, _, _, _, H3.cells (i := 0) rfl, ?_⟩
    exact fin (by unfold subC; rw [if_pos c3]) H3
  · refine ⟨fun x1 w5 => (x1 = true ↔ ¬ sizedB d) ∧ SlR (IntC .u8) 1 w5 da d ∧ St A [] w w5 [.blk b Ty_api_Cutter (encCu x a c), .blk b1 Ty_api_Cutter [.int .i64 0, .int .i64 0, .slice none 0 0, .int .i64 0]] (QL L a), ?_, ?_⟩
    · rintro _ x1 w5 ⟨hj, hd5, H5⟩
      refine bsplit_intro (fun c2 => ?_) (fun c2 => ?_)
      · refine ⟨_, _, _, _, _, _, H5.cells (i := 0) rfl, ?_⟩
        exact fin (by unfold subC; rw [if_neg (fun h => h c3), if_pos (hj.1 c2)]) H5
      · have c1 : sizedB d := by
          by_cases h : sizedB d
          · exact h
          · rw [hj.2 h] at c2; cases c2
        refine H5.ldS (i := 0) rfl rfl ?_
        refine kLet_in ?_
        refine bsplit_dec (fun c0 => ?_) (fun c0 => ?_)
        · refine ⟨_, _, _, _, _, _, H5.cells (i := 0) rfl, ?_⟩
          exact fin (by unfold subC; rw [if_neg (fun h => h c3), if_neg (fun h => h c1), if_pos (by omega)]) H5
        · have hE : subC x d = ({ x with q := x.q ++ [d] }, 0) := by unfold subC; rw [if_neg (fun h => h c3), if_neg (fun h => h c1), if_neg (by omega)]
          have hq256 := c3.2.2.1
          refine H5.alloc ?_; clear H5; intro b2 w8 H8
          simp only [List.cons_append, List.nil_append] at H8
          have H8 := H8.litE encBL_ok (i := 2) [] rfl (by decide)
          simp only [List.set_cons_succ, List.set_cons_zero] at H8
          refine H8.ldS (i := 0) rfl rfl ?_
          rw [← hLl]
          refine H8.appE encBL_ok (i := 2) rfl sl_Ty_S_S_uint8 H8.get.1 (by simp; omega) (by simp; omega) ?_
          intro x_a2 x_c2 w9 H9
          simp only [List.set_cons_succ, List.set_cons_zero, List.nil_append] at H9
          refine H9.alloc ?_; clear H9; intro b3 w10 H10
          simp only [List.cons_append, List.nil_append] at H10
          have H10 := H10.litI (i := 3) (k := .u8) [] rfl (by decide)
          simp only [List.set_cons_succ, List.set_cons_zero] at H10
          refine H10.appI (i := 3) rfl sl_Ty_S_uint8 (hd.below H10.below) (by simp; omega) (by simp; omega) ?_
          intro x_a3 x_c3 w11 H11
          simp only [List.set_cons_succ, List.set_cons_zero, List.nil_append] at H11
          have hcap := H11.capI (i := 3) rfl
          replace H11 := St.shareLast (R := [_, _, _]) H11
          refine H11.alloc ?_; clear H11; intro b4 w12 H12
          simp only [List.cons_append, List.nil_append] at H12
          refine H12.appEB encBL_ok (i := 2) (j := 3) rfl [⟨d, x_a3, x_c3⟩] rfl sl_Ty_S_S_uint8 rfl (by simp; omega) (by simp; omega) ?_
          intro x_a4 x_c4 w13 H13
          simp only [List.set_cons_succ, List.set_cons_zero] at H13
          refine H13.set (i := 0) rfl (by show 2 < 4; decide) ?_; intro w14 H14
          simp only [List.set_cons_succ, List.set_cons_zero] at H14
          refine ⟨_, _, _, _, _, _, H14.cells (i := 0) rfl, ?_⟩
          refine H14.store (i := 1) rfl (by rfl) (by rfl) ?_; clear H14; intro w16 H16
          refine ⟨_, _, _, _, _, _, H16.cells (i := 1) rfl, ?_⟩
          rw [hE]
          have eq : (L ++ [(⟨d, x_a3, x_c3⟩ : BL)]).map (·.d) = x.q ++ [d] := by rw [List.map_append, hL]; rfl
          have el : (L ++ [(⟨d, x_a3, x_c3⟩ : BL)]).length = (x.q ++ [d]).length := by rw [← eq, List.length_map]
          refine ⟨x_a4, x_c4, _, eq, ?_, ?_, ?_⟩
          · rw [el]
          · have := H16.capE (i := 2) rfl
            show (x.q ++ [d]).length ≤ _
            rw [← el]; exact this
          · have K := (H16.shareE encBL_ok (i := 2) rfl).fin
            refine K.imp fun w h => ?_
            refine ⟨h.1, fun y hy => ?_⟩
            rcases List.mem_append.1 hy with hy | hy
            · exact h.2.2.2 y hy
            · obtain rfl : y = ⟨d, x_a3, x_c3⟩ := by simpa using hy
              exact ⟨(ints_ok h.2.1).sl, hcap⟩
    · refine bsplit_dec (fun c => ?_) (fun c => ?_)
      · exact ⟨⟨fun _ h => by have := h.1; omega, fun _ => rfl⟩, hd.below H3.below, H3⟩
      · refine kLet_in ?_
        exact ⟨by rw [decide_eq_true_iff]; exact ⟨fun h hh => by have := hh.2; omega, fun h => by
          by_cases h' : (d.length : Int) > 2054
          · exact h'
          · exact absurd ⟨by omega, by omega⟩ h⟩, hd.below H3.below, H3⟩
end
end Go.Proofs.YtlgolgpellbnbaaGreat
namespace Go.Sx
def Cu.zero : Cu := ⟨0, 0, [], 0⟩
def newU (n wait : Int) : Cu × Rc × Int :=
  if lkOk ⟨n, 1, 1, wait, 0, 1⟩ then (⟨n, 0, [], 0⟩, ⟨⟨n, 1, 1, wait, 0, 1⟩, 0, 0, 0, -1, 0, 0, false, []⟩, 0) else (.zero, .zero, 3)
def plainR (s : Rc) : Rc := { s with due := false, upto := s.first }
end Go.Sx
namespace Go.Proofs.YtlgolgpellbnbaaGreat
open Go.Sx Go.RowKit
set_option maxRecDepth 100000
def RetU (w : World) (x : Cu × Rc × Int) (e : Ending) (w' : World) : Prop := e = .returned (.tuple #[aggCu x.1 none 0, aggRc x.2.1 none 0, .int .i64 x.2.2]) ∧ Below w.heap.size w w'
section
variable {n wait : Int} {w : World}
theorem unack_New_ct : Calls Tryz.prog N_unack_New #[.int .i64 n, .int .i64 wait] w (RetU w (newU n wait)) := by
  apply F_unack_New_ok
  unfold F_unack_New
  have H := St.nil w
  refine H.alloc ?_; clear H; intro b w1 H1
  refine H1.alloc ?_; clear H1; intro b1 w2 H2
  have hlk : lkOk ⟨n, 1, 1, wait, 0, 1⟩ ↔ bitsOk n ∧ 1 ≤ wait ∧ wait ≤ 1000 :=
    ⟨fun h => ⟨h.1, h.2.2.2.1⟩, fun h => ⟨h.1, ⟨by dsimp only; omega, by dsimp only; omega⟩, ⟨by dsimp only; omega, by dsimp only; omega⟩, h.2, ⟨by dsimp only; omega, by dsimp only; omega⟩, ⟨by dsimp only; omega, by dsimp only; omega⟩⟩⟩
  refine ⟨fun x w4 => (x = true ↔ ¬ lkOk ⟨n, 1, 1, wait, 0, 1⟩) ∧ FreshR w w4 [.blk b Ty_api_Cutter (encCu .zero none 0), .blk b1 Ty_api_Receiver (encRc .zero none 0)], ?_, ?_⟩
  · rintro _ x w4 ⟨hj, H4⟩
    refine bsplit_intro (fun c3 => ?_) (fun c3 => ?_)
    · refine H4.store (i := 0) rfl (by rfl) (by rfl) ?_; clear H4; intro w5 H5
      refine H5.store (i := 1) rfl (by rfl) (by rfl) ?_; clear H5; intro w6 H6
      refine ⟨_, _, _, _, _, _, H6.cells (i := 0) rfl, ?_⟩
      refine ⟨_, _, _, _, _, _, _, _, _, _, _, _, _, _, _, _, H6.cells (i := 1) rfl, ?_⟩
      have e : newU n wait = (.zero, .zero, 3) := by unfold newU; rw [if_neg (hj.1 c3)]
      rw [e]
      exact ⟨rfl, H6.below⟩
    · have hl : lkOk ⟨n, 1, 1, wait, 0, 1⟩ := by
        by_cases h : lkOk ⟨n, 1, 1, wait, 0, 1⟩
        · exact h
        · rw [hj.2 h] at c3; cases c3
      have C := receiver_New_ct (l := ⟨n, 1, 1, wait, 0, 1⟩) (w := w4)
      have e1 : newRc ⟨n, 1, 1, wait, 0, 1⟩ = (⟨⟨n, 1, 1, wait, 0, 1⟩, 0, 0, 0, -1, 0, 0, false, []⟩, 0) := by unfold newRc; rw [if_pos hl]
      rw [e1] at C
      refine C.mono ?_; clear C
      rintro _ w7 ⟨rfl, _, hb7⟩; have H7 := H4.pass hb7; clear H4
      refine ⟨_, _, _, _, _, _, _, _, _, _, _, _, _, _, _, _, _, rfl, ?_⟩
      refine H7.alloc ?_; clear H7; intro b2 w8 H8
      simp only [List.cons_append, List.nil_append] at H8
      refine H8.store (i := 2) rfl (by rfl) (by rfl) ?_; clear H8; intro w9 H9
      refine bsplit_nd (fun c2 => absurd rfl c2) (fun c2 => ?_)
      refine H9.drew ?_; clear H9; intro w12 H12
      refine ⟨fun z => z = b2, ?_⟩
      refine ⟨rfl, ?_⟩
      refine ⟨_, _, _, _, _, _, _, _, _, _, _, _, _, _, _, _, H12.cells (i := 2) rfl, ?_⟩
      refine ⟨keepB1 (H12.ok 2 _ rfl) (H12.ok 2 _ rfl), ?_⟩
      refine H12.store (i := 0) rfl (by rfl) (by rfl) ?_; intro w13 H13
      refine ⟨keepB1 (H12.ok 2 _ rfl) (H13.ok 2 _ rfl), ?_⟩
      refine H13.store (i := 1) rfl (by rfl) (by rfl) ?_; intro w14 H14
      refine ⟨_, _, _, _, _, _, H14.cells (i := 0) rfl, ?_⟩
      refine ⟨_, _, _, _, _, _, _, _, _, _, _, _, _, _, _, _, H14.cells (i := 1) rfl, ?_⟩
      have e : newU n wait = (⟨n, 0, [], 0⟩, ⟨⟨n, 1, 1, wait, 0, 1⟩, 0, 0, 0, -1, 0, 0, false, []⟩, 0) := by unfold newU; rw [if_pos hl]
      rw [e]
      exact ⟨rfl, H14.below⟩
  · refine unack_bitsValid_ct.mono ?_
    rintro _ w3 ⟨rfl, hb3⟩; have H3 := H2.pass hb3; clear H2
    refine ⟨_, rfl, ?_⟩
    refine bsplit_nd (fun c1 => ?_) (fun c1 => ?_)
    · exact ⟨⟨fun _ h => c1 (hlk.1 h).1, fun _ => rfl⟩, H3⟩
    · refine bsplit_dec (fun c => ?_) (fun c => ?_)
      · exact ⟨⟨fun _ h => by have := (hlk.1 h).2.1; omega, fun _ => rfl⟩, H3⟩
      · refine ⟨?_, H3⟩
        rw [decide_eq_true_iff, hlk]
        exact ⟨fun h hh => by have := hh.2.2; omega, fun h => by
          by_cases h' : wait > 1000
          · exact h'
          · exact absurd ⟨c1, by omega, by omega⟩ h⟩
theorem ref23_Link_ct : Calls Tryz.prog N_ref23_Link #[.int .i64 n, .int .i64 wait] w fun e w' => e = .returned (.agg #[.int .i64 n, .int .i64 1, .int .i64 1, .int .i64 wait, .int .i64 0, .int .i64 1]) ∧ Below w.heap.size w w' := by
  apply F_ref23_Link_ok
  unfold F_ref23_Link
  have H := St.nil w
  refine H.alloc ?_; clear H; intro b w1 H1
  refine H1.store (i := 0) rfl (by rfl) (by rfl) ?_; clear H1; intro w2 H2
  refine ⟨_, _, _, _, _, _, H2.cells (i := 0) rfl, ?_⟩
  exact ⟨rfl, H2.below⟩
theorem ref23_New_ct : Calls Tryz.prog N_ref23_New #[.int .i64 n, .int .i64 wait] w (RetU w (newU n wait)) := by
  apply F_ref23_New_ok
  unfold F_ref23_New
  have H := St.nil w
  refine H.alloc ?_; clear H; intro b w1 H1
  refine H1.alloc ?_; clear H1; intro b1 w2 H2
  refine ref23_Link_ct.mono ?_
  rintro _ w3 ⟨rfl, hb3⟩; have H3 := H2.pass hb3; clear H2
  refine ⟨_, _, _, _, _, _, rfl, ?_⟩
  have C := ref21_New_ct (l := ⟨n, 1, 1, wait, 0, 1⟩) (w := w3)
  by_cases hl : lkOk ⟨n, 1, 1, wait, 0, 1⟩
  · have e1 : newRc ⟨n, 1, 1, wait, 0, 1⟩ = (⟨⟨n, 1, 1, wait, 0, 1⟩, 0, 0, 0, -1, 0, 0, false, []⟩, 0) := by unfold newRc; rw [if_pos hl]
    rw [e1] at C
    refine C.mono ?_; clear C
    rintro _ w7 ⟨rfl, _, hb7⟩; have H7 := H3.pass hb7; clear H3
    refine ⟨_, _, _, _, _, _, _, _, _, _, _, _, _, _, _, _, _, rfl, ?_⟩
    refine H7.alloc ?_; clear H7; intro b2 w8 H8
    simp only [List.cons_append, List.nil_append] at H8
    refine H8.store (i := 2) rfl (by rfl) (by rfl) ?_; clear H8; intro w9 H9
    refine bsplit_nd (fun c2 => absurd rfl c2) (fun c2 => ?_)
    refine H9.drew ?_; clear H9; intro w12 H12
    refine ⟨fun z => z = b2, ?_⟩
    refine ⟨rfl, ?_⟩
    refine ⟨_, _, _, _, _, _, _, _, _, _, _, _, _, _, _, _, H12.cells (i := 2) rfl, ?_⟩
    refine ⟨keepB1 (H12.ok 2 _ rfl) (H12.ok 2 _ rfl), ?_⟩
    refine H12.store (i := 0) rfl (by rfl) (by rfl) ?_; intro w13 H13
    refine ⟨keepB1 (H12.ok 2 _ rfl) (H13.ok 2 _ rfl), ?_⟩
    refine H13.store (i := 1) rfl (by rfl) (by rfl) ?_; intro w14 H14
    refine ⟨keepB1 (H12.ok 2 _ rfl) (H14.ok 2 _ rfl), ?_⟩
    refine ⟨_, _, _, _, _, _, H14.cells (i := 0) rfl, ?_⟩
    refine ⟨_, _, _, _, _, _, _, _, _, _, _, _, _, _, _, _, H14.cells (i := 1) rfl, ?_⟩
    have e : newU n wait = (⟨n, 0, [], 0⟩, ⟨⟨n, 1, 1, wait, 0, 1⟩, 0, 0, 0, -1, 0, 0, false, []⟩, 0) := by unfold newU; rw [if_pos hl]
    rw [e]
    exact ⟨rfl, H14.below⟩
  · have e1 : newRc ⟨n, 1, 1, wait, 0, 1⟩ = (.zero, 3) := by unfold newRc; rw [if_neg hl]
    rw [e1] at C
    refine C.mono ?_; clear C
    rintro _ w7 ⟨rfl, _, hb7⟩; have H7 := H3.pass hb7; clear H3
    refine ⟨_, _, _, _, _, _, _, _, _, _, _, _, _, _, _, _, _, rfl, ?_⟩
    refine H7.alloc ?_; clear H7; intro b2 w8 H8
    simp only [List.cons_append, List.nil_append] at H8
    refine H8.store (i := 2) rfl (by rfl) (by rfl) ?_; clear H8; intro w9 H9
    refine bsplit_nd (fun c2 => ?_) (fun c2 => by cases c2)
    refine H9.store (i := 0) rfl (by rfl) (by rfl) ?_; clear H9; intro w10 H10
    refine H10.store (i := 1) rfl (by rfl) (by rfl) ?_; clear H10; intro w11 H11
    refine ⟨_, _, _, _, _, _, H11.cells (i := 0) rfl, ?_⟩
    refine ⟨_, _, _, _, _, _, _, _, _, _, _, _, _, _, _, _, H11.cells (i := 1) rfl, ?_⟩
    have e : newU n wait = (.zero, .zero, 3) := by unfold newU; rw [if_neg hl]
    rw [e]
    exact ⟨rfl, H11.below⟩
end
section
variable {s : Rc} {a : Option Addr} {c : Nat} {w : World}
theorem unack_plain_ct : Calls Tryz.prog N_unack_plain #[aggRc s a c] w fun e w' => e = .returned (aggRc (plainR s) a c) ∧ Below w.heap.size w w' := by
  apply F_unack_plain_ok
  unfold F_unack_plain
  have H := St.nil w
  refine H.alloc ?_; clear H; intro b w1 H1
  refine H1.alloc ?_; clear H1; intro b1 w2 H2
  simp only [List.cons_append, List.nil_append] at H2
  refine H2.ld (i := 0) rfl rfl ?_
  refine H2.set (i := 0) rfl (by show 12 < 14; decide) ?_; clear H2; intro w3 H3
  refine H3.set (i := 0) rfl (by show 8 < 14; decide) ?_; clear H3; intro w4 H4
  refine ⟨_, _, _, _, _, _, _, _, _, _, _, _, _, _, _, _, H4.cells (i := 0) rfl, ?_⟩
  refine H4.store (i := 1) rfl (by rfl) (by rfl) ?_; clear H4; intro w5 H5
  refine ⟨_, _, _, _, _, _, _, _, _, _, _, _, _, _, _, _, H5.cells (i := 1) rfl, ?_⟩
  exact ⟨rfl, H5.below⟩
theorem unack_Receive_ct {bs : List Int} {b_a : Option Addr} {b_c : Nat} (hu : PaR w a s.parts) (hl : SmP s.parts) (hs : SlR (IntC .u8) 1 w b_a bs) (hB : Bytes bs) (hlb : bs.length ≤ 140737488355328) (hcap : bs.length ≤ b_c) :
    Calls Tryz.prog N_unack_Receive #[aggRc s a c, .slice b_a bs.length b_c] w (RetRU w (plainR (recS s bs).1) (recS s bs).2.1 (recS s bs).2.2) := by
  apply F_unack_Receive_ok
  unfold F_unack_Receive
  have H := St.nil w
  refine H.alloc ?_; clear H; intro b w1 H1
  refine H1.alloc ?_; clear H1; intro b1 w2 H2
  refine ⟨_, _, _, _, _, _, _, _, _, _, _, _, _, _, _, _, H2.cells (i := 0) rfl, ?_⟩
  refine (receiver_Receive_ct (paR_below hu H2.below) hl (hs.below H2.below) hB hlb hcap).mono ?_
  obtain ⟨rr, hrr⟩ : ∃ rr, rr = recS s bs := ⟨_, rfl⟩
  rw [← hrr]
  rintro _ w3 ⟨ua, uc, ba, bc, rfl, hbc, K⟩; have H3 := H2.callF K; clear H2 K
  rw [List.append_nil] at H3
  refine ⟨_, _, _, _, _, _, _, _, _, _, _, _, _, _, _, _, _, _, _, _, rfl, ?_⟩
  refine H3.alloc ?_; clear H3; intro b2 w4 H4
  simp only [List.cons_append, List.nil_append] at H4
  refine H4.store (i := 2) rfl (by rfl) (by rfl) ?_; clear H4; intro w5 H5
  refine ⟨_, _, _, _, _, _, _, _, _, _, _, _, _, _, _, _, H5.cells (i := 2) rfl, ?_⟩
  refine (unack_plain_ct (s := rr.1)).mono ?_
  rintro _ w6 ⟨rfl, hb6⟩; have H6 := H5.pass hb6; clear H5
  refine ⟨_, _, _, _, _, _, _, _, _, _, _, _, _, _, _, _, rfl, ?_⟩
  refine H6.store (i := 1) rfl (by rfl) (by rfl) ?_; clear H6; intro w7 H7
  refine ⟨_, _, _, _, _, _, _, _, _, _, _, _, _, _, _, _, H7.cells (i := 1) rfl, ?_⟩
  exact ⟨ua, uc, ba, bc, rfl, hbc, H7.fin.imp fun _ h => h.1⟩
end
theorem unack_piece_ct {sn off : Int} {a : Option Addr} {l c : Nat} {w : World} :
    Calls Tryz.prog N_unack_piece #[.int .i64 sn, .int .i64 off, .slice a l c] w fun e w' => e = .returned (.agg #[.int .i64 sn, .int .i64 (if off = 0 then 0 else 2), .int .i64 0, .int .i64 off, .slice a l c]) ∧ Below w.heap.size w w' := by
  apply F_unack_piece_ok
  unfold F_unack_piece
  have H := St.nil w
  refine H.alloc ?_; clear H; intro b w1 H1
  refine bsplit_dec (fun h => ?_) (fun h => ?_)
  · refine H1.store (i := 0) rfl (by rfl) (by rfl) ?_; clear H1; intro w2 H2
    refine ⟨_, _, _, _, _, _, _, H2.cells (i := 0) rfl, ?_⟩
    exact ⟨by rw [if_pos h, h], H2.below⟩
  · refine H1.store (i := 0) rfl (by rfl) (by rfl) ?_; clear H1; intro w3 H3
    refine ⟨_, _, _, _, _, _, _, H3.cells (i := 0) rfl, ?_⟩
    exact ⟨by rw [if_neg h], H3.below⟩
end Go.Proofs.YtlgolgpellbnbaaGreat
namespace Go.Sx
def encPc (p : Pc) (a : Option Addr) (c : Nat) : List Value := [.int .i64 p.sn, .int .i64 p.part, .int .i64 p.poll, .int .i64 p.off, .slice a p.data.length c]
theorem enc_ok {b : Int} {p : Pc} (h : p.ok b) : encP b p = (p.bytes, 0) := by unfold encP; rw [if_pos h]
end Go.Sx
namespace Go.Proofs.YtlgolgpellbnbaaGreat
open Go.Sx Go.RowKit
set_option maxRecDepth 100000
def RetCB (w : World) (x : Cu × List Int × Int) (e : Ending) (w' : World) : Prop :=
  ∃ a c ba bc, e = .returned (.tuple #[aggCu x.1 a c, .slice ba x.2.1.length bc, .int .i64 x.2.2]) ∧ x.2.1.length ≤ bc ∧ Fresh w w' fun w => QR w a x.1.q ∧ SlR (IntC .u8) 1 w ba x.2.1
section
variable {x : Cu} {a : Option Addr} {c : Nat} {w : World} {size : Int}
theorem unack_Build_ct (hQ : QR w a x.q) (hm : SmQ x.q) (hsz : -9223372036854775808 ≤ size ∧ size ≤ 9223372036854775807) :
    Calls Tryz.prog N_unack_Build #[aggCu x a c, .int .i64 size] w (RetCB w (buildC x size)) := by
  apply F_unack_Build_ok
  unfold F_unack_Build
  have H := St.nil w
  refine H.alloc ?_; clear H; intro b w1 H1
  refine H1.alloc ?_; clear H1; intro b1 w2 H2
  refine ⟨_, _, _, _, _, _, H2.cells (i := 0) rfl, ?_⟩
  refine (own_Cutter_ct (qr_below hQ H2.below) hm).mono ?_
  rintro _ w3 ⟨ua, uc, L, hL, rfl, K⟩; have H3 := H2.callF K; clear H2 K
  have hLl : L.length = x.q.length := by rw [← hL, List.length_map]
  refine ⟨_, _, _, _, _, _, rfl, ?_⟩
  refine H3.alloc ?_; clear H3; intro b2 w4 H4
  simp only [List.cons_append, List.nil_append] at H4
  refine H4.store (i := 3) rfl (by rfl) (by rfl) ?_; clear H4; intro w5 H5
  replace H5 : St (fun _ => False) [] w w5 [.blk b Ty_api_Cutter (encCu x a c), .blk b1 Ty_api_Cutter [.int .i64 0, .int .i64 0, .slice none 0 0, .int .i64 0], .els encBL Ty_S_uint8 1 ua uc L, .blk b2 Ty_api_Cutter (encCu x ua uc)] (DaB L) := H5.imp fun _ h => h.1
  refine ⟨_, _, _, _, _, _, H5.cells (i := 0) rfl, ?_⟩
  refine (unack_Valid_ct (qr_below hQ H5.below) hm).mono ?_
  rintro _ w6 ⟨rfl, hb6⟩; have H6 := H5.pass hb6; clear H5
  refine ⟨_, rfl, ?_⟩
  have fin : ∀ {w' : World} {T : List Res} {E : Int} {P : World → Prop}, buildC x size = (x, [], E) → (∀ w, P w → DaB L w) → St (fun _ => False) [] w w' (.blk b Ty_api_Cutter (encCu x a c) :: .blk b1 Ty_api_Cutter [.int .i64 0, .int .i64 0, .slice none 0 0, .int .i64 0] :: .els encBL Ty_S_uint8 1 ua uc L :: .blk b2 Ty_api_Cutter (encCu x ua uc) :: T) P →
      sxStore w' ⟨b1, 0, none⟩ 0 (encCu x ua uc) fun w7 => ∃ x_0 x_1 x_a x_l x_c x_3, cellsAt w7 ⟨b1, 0, none⟩ 0 [.int .i64 x_0, .int .i64 x_1, .slice x_a x_l x_c, .int .i64 x_3] ∧
        RetCB w (buildC x size) (.returned (.tuple #[.agg #[.int .i64 x_0, .int .i64 x_1, .slice x_a x_l x_c, .int .i64 x_3], .slice none 0 0, .int .i64 E])) w7 := fun {w' T E P} hE hP H => by
    refine H.store (i := 1) rfl (by rfl) (by rfl) ?_; intro w7 H7
    refine ⟨_, _, _, _, _, _, H7.cells (i := 1) rfl, ?_⟩
    rw [hE]
    refine ⟨ua, uc, none, 0, rfl, Nat.le_refl _, ?_⟩
    have K := (H7.shareE encBL_ok (i := 2) rfl).fin
    exact K.imp fun w h => ⟨by show QR w ua x.q; rw [← hL]; exact up_qr h.1 (hP _ h.2), .nil⟩
  refine bsplit_nd (fun c6 => ?_) (fun c6 => ?_)
  · refine ⟨_, _, _, _, _, _, H6.cells (i := 3) rfl, ?_⟩
    exact fin (by unfold buildC; rw [if_pos c6]) (fun _ h => h) H6
  · refine ⟨fun x1 w8 => (x1 = true ↔ size < 0 ∨ size > 4096) ∧ St (fun _ => False) [] w w8 [.blk b Ty_api_Cutter (encCu x a c), .blk b1 Ty_api_Cutter [.int .i64 0, .int .i64 0, .slice none 0 0, .int .i64 0], .els encBL Ty_S_uint8 1 ua uc L, .blk b2 Ty_api_Cutter (encCu x ua uc)] (DaB L), ?_, ?_⟩
    · rintro _ x1 w8 ⟨hj, H8⟩
      refine bsplit_intro (fun c5 => ?_) (fun c5 => ?_)
      · refine ⟨_, _, _, _, _, _, H8.cells (i := 3) rfl, ?_⟩
        exact fin (by unfold buildC; rw [if_neg (fun h => h c6), if_pos (hj.1 c5)]) (fun _ h => h) H8
      · have hsz2 : ¬ (size < 0 ∨ size > 4096) := fun h => by rw [hj.2 h] at c5; cases c5
        refine H8.ldS (i := 0) rfl rfl ?_
        refine kLet_in ?_
        refine bsplit_dec (fun c4 => ?_) (fun c4 => ?_)
        · refine ⟨_, _, _, _, _, _, H8.cells (i := 3) rfl, ?_⟩
          have hq : x.q = [] := List.eq_nil_of_length_eq_zero (by omega)
          exact fin (by unfold buildC; rw [if_neg (fun h => h c6), if_neg hsz2, hq]) (fun _ h => h) H8
        · obtain ⟨d, l, hq⟩ : ∃ d l, x.q = d :: l := by
            cases hq : x.q with
            | nil => rw [hq] at c4; simp at c4
            | cons d l => exact ⟨d, l, rfl⟩
          obtain ⟨y, L', hLe⟩ : ∃ y L', L = y :: L' := by
            cases hLe : L with
            | nil => rw [hLe, hq] at hLl; simp at hLl
            | cons y L' => exact ⟨y, L', rfl⟩
          have hyd : y.d = d ∧ L'.map (·.d) = l := by
            rw [hLe, hq] at hL
            injection hL with h1 h2
            exact ⟨h1, h2⟩
          have hym : y ∈ L := by rw [hLe]; simp
          have hro := rest_ok c6 hq
          have hdo := c6.2.2.2.2.1 d (by rw [hq]; simp)
          obtain ⟨hd1, hd2⟩ := hdo
          have hs0 := c6.2.2.2.1
          have hs1 : x.sent < d.length := by have h := c6.2.2.2.2.2; unfold headOk at h; rw [hq] at h; exact h
          obtain ⟨cu, hcu⟩ : ∃ cu, cu = cutP x.bits (restP x d) size := ⟨_, rfl⟩
          have hB : buildC x size = if cu.2.2 ≠ 0 then (x, [], cu.2.2) else (afterC x d l cu.1.data.length, (encP x.bits cu.1).1, 0) := by
            unfold buildC; rw [if_neg (fun h => h c6), if_neg hsz2, hq, hcu]
          obtain ⟨g, rfl, hg1, hg2⟩ := H8.rowSome (i := 2) rfl (by omega)
          have hL0 : 0 < L.length := by omega
          have hy0 : L[0] = y := by simp [hLe]
          refine ⟨fun first e1 w70 => e1 = cu.2.2 ∧ ∃ (bp : Nat) (pa : Option Addr) (pc : Nat), first = (⟨bp, 0, none⟩ : Addr) ∧
            St (fun _ => False) [] w w70 [.blk b Ty_api_Cutter (encCu x a c), .blk b1 Ty_api_Cutter [.int .i64 0, .int .i64 0, .slice none 0 0, .int .i64 0], .els encBL Ty_S_uint8 1 (some ⟨g, 0, none⟩) uc L, .blk b2 Ty_api_Cutter (encCu x (some ⟨g, 0, none⟩) uc), .blk bp Ty_api_Piece (encPc cu.1 pa pc)] (fun w => SlR (IntC .u8) 1 w pa cu.1.data ∧ DaB L w), ?_, ?_⟩
          · rintro _ first e1 w70 ⟨rfl, bp, pa, pc, rfl, H70⟩
            clear H8
            refine bsplit_nd (fun c3 => ?_) (fun c3 => ?_)
            · refine ⟨_, _, _, _, _, _, H70.cells (i := 3) rfl, ?_⟩
              exact fin (by rw [hB, if_pos c3]) (fun _ h => h.2) H70
            · have hc0 : (cutP x.bits (restP x d) size).2.2 = 0 := by rw [← hcu]; simpa using c3
              obtain ⟨k1, k2, k3⟩ := cut_ok hro hc0
              rw [← hcu] at k1 k2 k3
              have k4 : cu.1.data.length ≤ d.length := by
                have := congrArg List.length k2
                rw [List.length_take] at this
                have h2 : (restP x d).data.length ≤ d.length := by show (d.drop _).length ≤ _; simp
                omega
              have hB2 : buildC x size = (afterC x d l cu.1.data.length, cu.1.bytes, 0) := by rw [hB, if_neg (fun h => h c3), enc_ok k1]
              refine H70.ld (i := 0) rfl rfl ?_
              refine ⟨_, _, _, _, _, _, _, H70.cells (i := 4) rfl, ?_⟩
              have C := segment_Encode_ct (bits := x.bits) (p_0 := cu.1.sn) (p_1 := cu.1.part) (p_2 := cu.1.poll) (p_3 := cu.1.off) (p_4_c := pc) H70.get.1 (by omega)
              have e1 : (⟨cu.1.sn, cu.1.part, cu.1.poll, cu.1.off, cu.1.data⟩ : Pc) = cu.1 := rfl
              rw [e1, enc_ok k1] at C
              refine C.mono ?_; clear C
              rintro _ w72 ⟨ra, rc, hrc, rfl, K⟩; have H72 := H70.callF K; clear K H70
              rw [List.append_nil] at H72
              refine ⟨_, _, _, _, rfl, ?_⟩
              refine bsplit_nd (fun c2 => absurd rfl c2) (fun c2 => ?_)
              refine H72.ld (i := 3) rfl rfl ?_
              refine ⟨_, _, _, H72.cell (i := 4) (o := 4) rfl rfl, ?_⟩
              refine kW_i64 (by omega) ?_
              refine H72.set (i := 3) rfl (by show 3 < 4; decide) ?_; clear H72; intro w74 H74
              refine H74.drew ?_; clear H74; intro w75 H75
              replace H75 : St (fun _ => False) [] w w75 [.blk b Ty_api_Cutter (encCu x a c), .blk b1 Ty_api_Cutter [.int .i64 0, .int .i64 0, .slice none 0 0, .int .i64 0], .els encBL Ty_S_uint8 1 (some ⟨g, 0, none⟩) uc L, .blk b2 Ty_api_Cutter [.int .i64 x.bits, .int .i64 x.next, .slice (some ⟨g, 0, none⟩) x.q.length uc, .int .i64 (x.sent + cu.1.data.length)], .blk bp Ty_api_Piece (encPc cu.1 pa pc)] (fun w => SlR (IntC .u8) 1 w ra cu.1.bytes ∧ SlR (IntC .u8) 1 w pa cu.1.data ∧ DaB L w) := H75
              refine H75.ld (i := 3) rfl rfl ?_
              refine H75.ldS (i := 3) rfl rfl ?_
              refine kIx_at ⟨by omega, by omega⟩ ?_
              refine ⟨_, _, _, H75.cellEl encBL_ok (i := 2) rfl hL0 (j := 0) (v := .slice y.a y.d.length y.c) (by decide) (by rw [hy0]; rfl), ?_⟩
              refine bsplit_dec (fun c1 => ?_) (fun c1 => ?_)
              · refine H75.drew ?_; clear H75; intro w76 H76
                refine ⟨fun z => z = b2, ?_⟩
                refine ⟨rfl, ?_⟩
                refine H76.ldS (i := 3) rfl rfl ?_
                refine ⟨⟨by omega, by omega⟩, ?_⟩
                refine H76.ld (i := 0) rfl rfl ?_
                refine H76.ld (i := 0) rfl rfl ?_
                have hnx := c6.2.1
                have hpw := pow_bits c6.1
                refine kW_i64 (by omega) ?_
                refine serial_Low_ct.mono ?_
                rintro _ w77 ⟨rfl, hb77⟩; have H77 := H76.pass hb77
                have hbb := c6.1
                obtain ⟨hbb1, hbb2⟩ := hbb
                rw [if_pos (by omega)]
                refine ⟨_, rfl, ?_⟩
                refine ⟨keepB1 (H76.ok 3 _ rfl) (H77.ok 3 _ rfl), ?_⟩
                clear H76
                refine H77.set (i := 3) rfl (by show 2 < 4; decide) ?_; clear H77; intro w78 H78
                refine H78.set (i := 3) rfl (by show 3 < 4; decide) ?_; clear H78; intro w79 H79
                refine H79.set (i := 3) rfl (by show 1 < 4; decide) ?_; clear H79; intro w80 H80
                refine ⟨_, _, _, _, _, _, H80.cells (i := 3) rfl, ?_⟩
                refine H80.store (i := 1) rfl (by rfl) (by rfl) ?_; clear H80; intro w81 H81
                refine ⟨_, _, _, _, _, _, H81.cells (i := 1) rfl, ?_⟩
                rw [hB2]
                have ha : afterC x d l cu.1.data.length = { x with q := l, sent := 0, next := (x.next + 1) % 2 ^ x.bits.toNat } := by unfold afterC; rw [if_pos (by rw [hyd.1] at c1; exact c1)]
                rw [ha]
                have el : x.q.length - (1 : Int).toNat = l.length := by rw [hq]; simp
                refine ⟨slAddr uc 1 1 (some ⟨g, 0, none⟩), uc - 1, ra, rc, ?_, hrc, ?_⟩
                · rw [el]; rfl
                · have hce := H81.capE (i := 2) rfl
                  have K := (H81.shareE encBL_ok (i := 2) rfl).fin
                  refine K.imp fun w h => ⟨?_, h.2.1⟩
                  show QR w (slAddr uc 1 1 (some ⟨g, 0, none⟩)) l
                  have e2 : (L.drop 1).take (L.drop 1).length = L' := by rw [List.take_length, hLe]; rfl
                  have h1 := h.1.cutE hce (L.drop 1).length (l := 1)
                  rw [e2] at h1
                  rw [← hyd.2]
                  exact up_qr h1 fun z hz => h.2.2.2 z (by rw [hLe]; simp [hz])
              · refine ⟨_, _, _, _, _, _, H75.cells (i := 3) rfl, ?_⟩
                refine H75.store (i := 1) rfl (by rfl) (by rfl) ?_; clear H75; intro w82 H82
                refine ⟨_, _, _, _, _, _, H82.cells (i := 1) rfl, ?_⟩
                rw [hB2]
                have ha : afterC x d l cu.1.data.length = { x with sent := x.sent + cu.1.data.length } := by unfold afterC; rw [if_neg (by rw [hyd.1] at c1; exact c1)]
                rw [ha]
                refine ⟨some ⟨g, 0, none⟩, uc, ra, rc, rfl, hrc, ?_⟩
                have K := (H82.shareE encBL_ok (i := 2) rfl).fin
                exact K.imp fun w h => ⟨by show QR w _ x.q; rw [← hL]; exact up_qr h.1 h.2.2.2, h.2.1⟩
          · refine H8.drew ?_; clear H8; intro w11 H11
            refine ⟨(· < w11.heap.size), ?_⟩
            have c0 := H11.cellEl encBL_ok (i := 2) rfl hL0 (j := 0) (v := .slice y.a y.d.length y.c) (by decide) (by rw [hy0]; rfl)
            refine ⟨H11.lt (i := 0) rfl rfl, ?_⟩
            refine H11.ld (i := 0) rfl rfl ?_
            refine ⟨H11.lt (i := 0) rfl rfl, ?_⟩
            refine H11.ld (i := 0) rfl rfl ?_
            refine ⟨H11.lt (i := 0) rfl rfl, ?_⟩
            refine H11.ld (i := 0) rfl rfl ?_
            refine ⟨H11.lt (i := 3) rfl rfl, ?_⟩
            refine H11.ldS (i := 3) rfl rfl ?_
            refine kIx_at ⟨by omega, by omega⟩ ?_
            refine ⟨cell_lt c0, ?_⟩
            refine ⟨_, _, _, c0, ?_⟩
            refine ⟨H11.lt (i := 0) rfl rfl, ?_⟩
            refine H11.ld (i := 0) rfl rfl ?_
            obtain ⟨n, hn⟩ := natOf hs0
            have hyl : y.d.length = d.length := by rw [hyd.1]
            refine ⟨⟨by omega, by omega⟩, ?_⟩
            have hrl : y.d.length - x.sent.toNat = (restP x d).data.length := by show _ = (d.drop _).length; rw [hyl]; simp
            have hda : ∀ {w}, DaB L w → SlR (IntC .u8) 1 w (slAddr y.c x.sent.toNat 1 y.a) (restP x d).data := fun h => by
              have h1 := (h y hym).1.cut (h y hym).2 (l := x.sent.toNat) (y.d.drop x.sent.toNat).length
              rw [List.take_length, hyd.1] at h1
              exact h1
            have hcp : (restP x d).data.length ≤ y.c - x.sent.toNat := by
              have := (H11.get y hym).2
              rw [← hrl]; omega
            rw [hrl]
            have hpc : ∀ {w' : World} {T : List Res} {K : Ending → World → Prop}, St (fun _ => False) [] w w' T (DaB L) →
                (∀ w'', Below w'.heap.size w' w'' → St (fun _ => False) [] w w'' T (DaB L) → K (.returned (.agg #[.int .i64 x.next, .int .i64 (if x.sent = 0 then 0 else 2), .int .i64 0, .int .i64 x.sent, .slice (slAddr y.c x.sent.toNat 1 y.a) (restP x d).data.length (y.c - x.sent.toNat)])) w'') →
                Calls Tryz.prog N_unack_piece #[.int .i64 x.next, .int .i64 x.sent, .slice (slAddr y.c x.sent.toNat 1 y.a) (restP x d).data.length (y.c - x.sent.toNat)] w' K := fun {w' T K} H hK => by
              refine unack_piece_ct.mono ?_
              rintro _ w'' ⟨rfl, hb⟩
              exact hK w'' hb (H.pass hb)
            have hcut : ∀ {w' : World} {T : List Res} {K : Ending → World → Prop}, St (fun _ => False) [] w w' T (DaB L) →
                (∀ pa pc pa' pc' w'', Below w'.heap.size w' w'' → St (fun _ => False) [] w w'' T (fun w => SlR (IntC .u8) 1 w pa cu.1.data ∧ DaB L w) → K (.returned (.tuple #[.agg #[.int .i64 cu.1.sn, .int .i64 cu.1.part, .int .i64 cu.1.poll, .int .i64 cu.1.off, .slice pa cu.1.data.length pc], .agg #[.int .i64 cu.2.1.sn, .int .i64 cu.2.1.part, .int .i64 cu.2.1.poll, .int .i64 cu.2.1.off, .slice pa' cu.2.1.data.length pc'], .int .i64 cu.2.2])) w'') →
                Calls Tryz.prog N_segment_Cut #[.int .i64 x.bits, .agg #[.int .i64 x.next, .int .i64 (if x.sent = 0 then 0 else 2), .int .i64 0, .int .i64 x.sent, .slice (slAddr y.c x.sent.toNat 1 y.a) (restP x d).data.length (y.c - x.sent.toNat)], .int .i64 size] w' K := fun {w' T K} H hK => by
              have C := segment_Cut_ct (bits := x.bits) (p_0 := x.next) (p_1 := if x.sent = 0 then 0 else 2) (p_2 := 0) (p_3 := x.sent) (p_4_c := y.c - x.sent.toNat) (hda H.get) (by omega) hcp hsz
              have e1 : (⟨x.next, if x.sent = 0 then 0 else 2, 0, x.sent, (restP x d).data⟩ : Pc) = restP x d := rfl
              rw [e1, ← hcu] at C
              refine C.mono ?_
              rintro _ w25 ⟨pa, pc, pa', pc', hpc, hpc', rfl, K25⟩
              have H25 := H.callF K25
              simp only [List.append_nil] at H25
              exact hK pa pc pa' pc' w25 K25.below (H25.imp fun w h => ⟨h.1.1, h.2⟩)
            have fin2 : ∀ {w' : World} {bp bq : Nat} {pa pa' : Option Addr} {pc pc' : Nat} {cs1 cs2 : List Value}, cs1.length = 5 → cs2.length = 5 →
                St (fun _ => False) [] w w' (.blk b Ty_api_Cutter (encCu x a c) :: .blk b1 Ty_api_Cutter [.int .i64 0, .int .i64 0, .slice none 0 0, .int .i64 0] :: .els encBL Ty_S_uint8 1 (some ⟨g, 0, none⟩) uc L :: .blk b2 Ty_api_Cutter (encCu x (some ⟨g, 0, none⟩) uc) :: .blk bp Ty_api_Piece cs1 :: .blk bq Ty_api_Piece cs2 :: []) (fun w => SlR (IntC .u8) 1 w pa cu.1.data ∧ DaB L w) →
                sxStore w' ⟨bp, 0, none⟩ 0 (encPc cu.1 pa pc) fun w48 => sxStore w48 ⟨bq, 0, none⟩ 0 (encPc cu.2.1 pa' pc') fun w49 =>
                  (cu.2.2 = cu.2.2 ∧ ∃ (bp' : Nat) (pa : Option Addr) (pc : Nat), (⟨bp, 0, none⟩ : Addr) = (⟨bp', 0, none⟩ : Addr) ∧
                    St (fun _ => False) [] w w49 [.blk b Ty_api_Cutter (encCu x a c), .blk b1 Ty_api_Cutter [.int .i64 0, .int .i64 0, .slice none 0 0, .int .i64 0], .els encBL Ty_S_uint8 1 (some ⟨g, 0, none⟩) uc L, .blk b2 Ty_api_Cutter (encCu x (some ⟨g, 0, none⟩) uc), .blk bp' Ty_api_Piece (encPc cu.1 pa pc)] (fun w => SlR (IntC .u8) 1 w pa cu.1.data ∧ DaB L w)) := fun {w' bp bq pa pa' pc pc' cs1 cs2} h1 h2 H => by
              refine H.store (i := 4) rfl (by rw [h1]; rfl) (by rfl) ?_; intro w48 H48
              simp only [List.set_cons_succ, List.set_cons_zero] at H48
              refine H48.store (i := 5) rfl (by rw [h2]; rfl) (by rfl) ?_; intro w49 H49
              simp only [List.set_cons_succ, List.set_cons_zero] at H49
              exact ⟨rfl, bp, pa, pc, rfl, St.dropLast (R := [_, _, _, _, _]) H49⟩
            have hb0 := Below.refl w11.heap.size w11
            refine ⟨?_, ?_, ?_, trivial⟩
            · refine hpc H11 fun w12 hb12 H12 => ?_
              refine ⟨_, _, _, _, _, _, _, rfl, ?_⟩
              have j12 := below_step hb0 (Nat.le_refl _) hb12
              refine ⟨j12.keeps, ?_⟩
              refine ⟨?_, ?_, ?_, trivial⟩
              · refine hcut H12 fun pa pc pa' pc' w13 hb13 H13 => ?_
                refine ⟨_, _, _, _, _, _, _, _, _, _, _, _, _, _, _, rfl, ?_⟩
                have j13 := below_step j12 (Nat.le_refl _) hb13
                refine ⟨j13.keeps, ?_⟩
                refine ⟨?_, ?_, trivial⟩
                · refine H13.allocB ?_; intro b4 w14 hb14 H14
                  have j14 := below_step j13 (Nat.le_refl _) hb14
                  refine ⟨j14.keeps, ?_⟩
                  refine H14.allocB ?_; intro b5 w15 hb15 H15
                  have j15 := below_step j14 (Nat.le_refl _) hb15
                  refine ⟨j15.keeps, ?_⟩
                  exact fin2 rfl rfl H15
                · refine H13.allocB ?_; intro b4 w14 hb14 H14
                  have j14 := below_step j13 (Nat.le_refl _) hb14
                  refine ⟨j14.keeps, ?_⟩
                  refine H14.allocB ?_; intro b5 w15 hb15 H15
                  have j15 := below_step j14 (Nat.le_refl _) hb15
                  refine ⟨j15.keeps, ?_⟩
                  exact fin2 rfl rfl (St.lastTo (X := [_, _, _, _]) H15)
              · refine H12.allocB ?_; intro b4 w14 hb14 H14
                have j14 := below_step j12 (Nat.le_refl _) hb14
                refine ⟨j14.keeps, ?_⟩
                refine ⟨?_, ?_, trivial⟩
                · refine hcut H14 fun pa pc pa' pc' w13 hb13 H13 => ?_
                  refine ⟨_, _, _, _, _, _, _, _, _, _, _, _, _, _, _, rfl, ?_⟩
                  have j13 := below_step j14 (Nat.le_refl _) hb13
                  refine ⟨j13.keeps, ?_⟩
                  refine H13.allocB ?_; intro b5 w15 hb15 H15
                  have j15 := below_step j13 (Nat.le_refl _) hb15
                  refine ⟨j15.keeps, ?_⟩
                  exact fin2 rfl rfl H15
                · refine H14.allocB ?_; intro b5 w15 hb15 H15
                  have j15 := below_step j14 (Nat.le_refl _) hb15
                  refine ⟨j15.keeps, ?_⟩
                  refine hcut H15 fun pa pc pa' pc' w13 hb13 H13 => ?_
                  refine ⟨_, _, _, _, _, _, _, _, _, _, _, _, _, _, _, rfl, ?_⟩
                  have j13 := below_step j15 (Nat.le_refl _) hb13
                  refine ⟨j13.keeps, ?_⟩
                  exact fin2 rfl rfl H13
              · refine H12.allocB ?_; intro b4 w14 hb14 H14
                have j14 := below_step j12 (Nat.le_refl _) hb14
                refine ⟨j14.keeps, ?_⟩
                refine ⟨?_, ?_, trivial⟩
                · refine hcut H14 fun pa pc pa' pc' w13 hb13 H13 => ?_
                  refine ⟨_, _, _, _, _, _, _, _, _, _, _, _, _, _, _, rfl, ?_⟩
                  have j13 := below_step j14 (Nat.le_refl _) hb13
                  refine ⟨j13.keeps, ?_⟩
                  refine H13.allocB ?_; intro b5 w15 hb15 H15
                  have j15 := below_step j13 (Nat.le_refl _) hb15
                  refine ⟨j15.keeps, ?_⟩
                  exact fin2 rfl rfl (St.lastTo (X := [_, _, _, _]) H15)
                · refine H14.allocB ?_; intro b5 w15 hb15 H15
                  have j15 := below_step j14 (Nat.le_refl _) hb15
                  refine ⟨j15.keeps, ?_⟩
                  refine hcut H15 fun pa pc pa' pc' w13 hb13 H13 => ?_
                  refine ⟨_, _, _, _, _, _, _, _, _, _, _, _, _, _, _, rfl, ?_⟩
                  have j13 := below_step j15 (Nat.le_refl _) hb13
                  refine ⟨j13.keeps, ?_⟩
                  exact fin2 rfl rfl (St.lastTo (X := [_, _, _, _]) H13)
            · refine H11.allocB ?_; intro b4 w14 hb14 H14
              have j14 := below_step hb0 (Nat.le_refl _) hb14
              refine ⟨j14.keeps, ?_⟩
              refine ⟨?_, ?_, trivial⟩
              · refine hpc H14 fun w12 hb12 H12 => ?_
                refine ⟨_, _, _, _, _, _, _, rfl, ?_⟩
                have j12 := below_step j14 (Nat.le_refl _) hb12
                refine ⟨j12.keeps, ?_⟩
                refine ⟨?_, ?_, trivial⟩
                · refine hcut H12 fun pa pc pa' pc' w13 hb13 H13 => ?_
                  refine ⟨_, _, _, _, _, _, _, _, _, _, _, _, _, _, _, rfl, ?_⟩
                  have j13 := below_step j12 (Nat.le_refl _) hb13
                  refine ⟨j13.keeps, ?_⟩
                  refine H13.allocB ?_; intro b5 w15 hb15 H15
                  have j15 := below_step j13 (Nat.le_refl _) hb15
                  refine ⟨j15.keeps, ?_⟩
                  exact fin2 rfl rfl H15
                · refine H12.allocB ?_; intro b5 w15 hb15 H15
                  have j15 := below_step j12 (Nat.le_refl _) hb15
                  refine ⟨j15.keeps, ?_⟩
                  refine hcut H15 fun pa pc pa' pc' w13 hb13 H13 => ?_
                  refine ⟨_, _, _, _, _, _, _, _, _, _, _, _, _, _, _, rfl, ?_⟩
                  have j13 := below_step j15 (Nat.le_refl _) hb13
                  refine ⟨j13.keeps, ?_⟩
                  exact fin2 rfl rfl H13
              · refine H14.allocB ?_; intro b5 w15 hb15 H15
                have j15 := below_step j14 (Nat.le_refl _) hb15
                refine ⟨j15.keeps, ?_⟩
                refine hpc H15 fun w12 hb12 H12 => ?_
                refine ⟨_, _, _, _, _, _, _, rfl, ?_⟩
                have j12 := below_step j15 (Nat.le_refl _) hb12
                refine ⟨j12.keeps, ?_⟩
                refine hcut H12 fun pa pc pa' pc' w13 hb13 H13 => ?_
                refine ⟨_, _, _, _, _, _, _, _, _, _, _, _, _, _, _, rfl, ?_⟩
                have j13 := below_step j12 (Nat.le_refl _) hb13
                refine ⟨j13.keeps, ?_⟩
                exact fin2 rfl rfl H13
            · refine H11.allocB ?_; intro b4 w14 hb14 H14
              have j14 := below_step hb0 (Nat.le_refl _) hb14
              refine ⟨j14.keeps, ?_⟩
              refine ⟨?_, ?_, trivial⟩
              · refine hpc H14 fun w12 hb12 H12 => ?_
                refine ⟨_, _, _, _, _, _, _, rfl, ?_⟩
                have j12 := below_step j14 (Nat.le_refl _) hb12
                refine ⟨j12.keeps, ?_⟩
                refine ⟨?_, ?_, trivial⟩
                · refine hcut H12 fun pa pc pa' pc' w13 hb13 H13 => ?_
                  refine ⟨_, _, _, _, _, _, _, _, _, _, _, _, _, _, _, rfl, ?_⟩
                  have j13 := below_step j12 (Nat.le_refl _) hb13
                  refine ⟨j13.keeps, ?_⟩
                  refine H13.allocB ?_; intro b5 w15 hb15 H15
                  have j15 := below_step j13 (Nat.le_refl _) hb15
                  refine ⟨j15.keeps, ?_⟩
                  exact fin2 rfl rfl (St.lastTo (X := [_, _, _, _]) H15)
                · refine H12.allocB ?_; intro b5 w15 hb15 H15
                  have j15 := below_step j12 (Nat.le_refl _) hb15
                  refine ⟨j15.keeps, ?_⟩
                  refine hcut H15 fun pa pc pa' pc' w13 hb13 H13 => ?_
                  refine ⟨_, _, _, _, _, _, _, _, _, _, _, _, _, _, _, rfl, ?_⟩
                  have j13 := below_step j15 (Nat.le_refl _) hb13
                  refine ⟨j13.keeps, ?_⟩
                  exact fin2 rfl rfl (St.lastTo (X := [_, _, _, _]) H13)
              · refine H14.allocB ?_; intro b5 w15 hb15 H15
                have j15 := below_step j14 (Nat.le_refl _) hb15
                refine ⟨j15.keeps, ?_⟩
                refine hpc H15 fun w12 hb12 H12 => ?_
                refine ⟨_, _, _, _, _, _, _, rfl, ?_⟩
                have j12 := below_step j15 (Nat.le_refl _) hb12
                refine ⟨j12.keeps, ?_⟩
                refine hcut H12 fun pa pc pa' pc' w13 hb13 H13 => ?_
                refine ⟨_, _, _, _, _, _, _, _, _, _, _, _, _, _, _, rfl, ?_⟩
                have j13 := below_step j12 (Nat.le_refl _) hb13
                refine ⟨j13.keeps, ?_⟩
                exact fin2 rfl rfl (St.lastTo (X := [_, _, _, _]) H13)
    · refine bsplit_dec (fun c => ?_) (fun c => ?_)
      · exact ⟨⟨fun _ => .inl c, fun _ => rfl⟩, H6⟩
      · refine kLet_in ?_
        exact ⟨by rw [decide_eq_true_iff]; omega, H6⟩
end
end Go.Proofs.YtlgolgpellbnbaaGreat
namespace Go.Proofs.YtlgolgpellbnbaaGreat
open Go.Sx Go.RowKit
set_option maxRecDepth 100000
def RetCBA (A : Nat → Prop) (w : World) (x : Cu × List Int × Int) (e : Ending) (w' : World) : Prop :=
  ∃ a c L ba bc, L.map (·.d) = x.1.q ∧ e = .returned (.tuple #[aggCu x.1 a c, .slice ba x.2.1.length bc, .int .i64 x.2.2]) ∧ x.2.1.length ≤ bc ∧ x.1.q.length ≤ c ∧ St A [] w w' [] fun w => SlR (IntC .u8) 1 w ba x.2.1 ∧ QL L a w
section
variable {x : Cu} {a : Option Addr} {c : Nat} {w : World} {size : Int}
theorem ref23_Build_ct {A : Nat → Prop} {L : List BL} (hL : L.map (·.d) = x.q) (hQ : Held A w (QL L a)) (hm : SmQ x.q) (hxc : x.q.length ≤ c) (hsz : -9223372036854775808 ≤ size ∧ size ≤ 9223372036854775807) :
    Calls Tryz.prog N_ref23_Build #[aggCu x a c, .int .i64 size] w (RetCBA A w (buildC x size)) := by
  apply F_ref23_Build_ok
  unfold F_ref23_Build
  have H := St.start hQ
  have hq' : ∀ {w}, QL L a w → QR w a x.q := fun h => by rw [← hL]; exact h.qr
  have hLl : L.length = x.q.length := by rw [← hL, List.length_map]
  refine H.alloc ?_; clear H; intro b w1 H1
  refine H1.alloc ?_; clear H1; intro b1 w2 H2
  refine ⟨_, _, _, _, _, _, H2.cells (i := 0) rfl, ?_⟩
  refine (ref23_Valid_ct (hq' H2.get) hm).mono ?_
  rintro _ w3 ⟨rfl, hb3⟩; have H3 := H2.pass hb3; clear H2
  refine ⟨_, rfl, ?_⟩
  replace H3 : St A [] w w3 [.blk b Ty_api_Cutter (encCu x a c), .blk b1 Ty_api_Cutter [.int .i64 0, .int .i64 0, .slice none 0 0, .int .i64 0]] (QL L a) := H3
  have fin : ∀ {w' : World} {T : List Res} {E : Int} {P : World → Prop}, buildC x size = (x, [], E) → (∀ w, P w → QL L a w) → St A [] w w' (.blk b Ty_api_Cutter (encCu x a c) :: .blk b1 Ty_api_Cutter [.int .i64 0, .int .i64 0, .slice none 0 0, .int .i64 0] :: T) P →
      sxStore w' ⟨b1, 0, none⟩ 0 (encCu x a c) fun w7 => ∃ x_0 x_1 x_a x_l x_c x_3, cellsAt w7 ⟨b1, 0, none⟩ 0 [.int .i64 x_0, .int .i64 x_1, .slice x_a x_l x_c, .int .i64 x_3] ∧
        RetCBA A w (buildC x size) (.returned (.tuple #[.agg #[.int .i64 x_0, .int .i64 x_1, .slice x_a x_l x_c, .int .i64 x_3], .slice none 0 0, .int .i64 E])) w7 := fun {w' T E P} hE hP H => by
    refine H.store (i := 1) rfl (by rfl) (by rfl) ?_; intro w7 H7
    refine ⟨_, _, _, _, _, _, H7.cells (i := 1) rfl, ?_⟩
    rw [hE]
    exact ⟨a, c, L, none, 0, hL, rfl, Nat.le_refl _, hxc, H7.fin.imp fun w h => ⟨.nil, hP _ h⟩⟩
  refine bsplit_nd (fun c6 => ?_) (fun c6 => ?_)
  · refine ⟨_, _, _, _, _, _, H3.cells (i := 0) rfl, ?_⟩
    exact fin (by unfold buildC; rw [if_pos c6]) (fun _ h => h) H3
  · refine ⟨fun x1 w8 => (x1 = true ↔ size < 0 ∨ size > 4096) ∧ St A [] w w8 [.blk b Ty_api_Cutter (encCu x a c), .blk b1 Ty_api_Cutter [.int .i64 0, .int .i64 0, .slice none 0 0, .int .i64 0]] (QL L a), ?_, ?_⟩
    · rintro _ x1 w5 ⟨hj, H5⟩
      refine bsplit_intro (fun c5 => ?_) (fun c5 => ?_)
      · refine ⟨_, _, _, _, _, _, H5.cells (i := 0) rfl, ?_⟩
        exact fin (by unfold buildC; rw [if_neg (fun h => h c6), if_pos (hj.1 c5)]) (fun _ h => h) H5
      · have hsz2 : ¬ (size < 0 ∨ size > 4096) := fun h => by rw [hj.2 h] at c5; cases c5
        refine H5.ldS (i := 0) rfl rfl ?_
        refine kLet_in ?_
        refine bsplit_dec (fun c4 => ?_) (fun c4 => ?_)
        · refine ⟨_, _, _, _, _, _, H5.cells (i := 0) rfl, ?_⟩
          have hq : x.q = [] := List.eq_nil_of_length_eq_zero (by omega)
          exact fin (by unfold buildC; rw [if_neg (fun h => h c6), if_neg hsz2, hq]) (fun _ h => h) H5
        · obtain ⟨d, l, hq⟩ : ∃ d l, x.q = d :: l := by
            cases hq : x.q with
            | nil => rw [hq] at c4; simp at c4
            | cons d l => exact ⟨d, l, rfl⟩
          obtain ⟨y, L', hLe⟩ : ∃ y L', L = y :: L' := by
            cases hLe : L with
            | nil => rw [hLe, hq] at hLl; simp at hLl
            | cons y L' => exact ⟨y, L', rfl⟩
          have hyd : y.d = d ∧ L'.map (·.d) = l := by
            rw [hLe, hq] at hL
            injection hL with h1 h2
            exact ⟨h1, h2⟩
          have hym : y ∈ L := by rw [hLe]; simp
          have hyl : y.d.length = d.length := by rw [hyd.1]
          have hro := rest_ok c6 hq
          have hdo := c6.2.2.2.2.1 d (by rw [hq]; simp)
          obtain ⟨hd1, hd2⟩ := hdo
          have hs0 := c6.2.2.2.1
          have hs1 : x.sent < d.length := by have h := c6.2.2.2.2.2; unfold headOk at h; rw [hq] at h; exact h
          obtain ⟨cu, hcu⟩ : ∃ cu, cu = cutP x.bits (restP x d) size := ⟨_, rfl⟩
          have hB : buildC x size = if cu.2.2 ≠ 0 then (x, [], cu.2.2) else (afterC x d l cu.1.data.length, (encP x.bits cu.1).1, 0) := by
            unfold buildC; rw [if_neg (fun h => h c6), if_neg hsz2, hq, hcu]
          have hbb := c6.1
          obtain ⟨hbb1, hbb2⟩ := hbb
          have hnx := c6.2.1
          have hpw := pow_bits c6.1
          have hq256 := c6.2.2.1
          have hix : ∀ {w' : World} {F : Addr → Prop}, QL L a w' → (∀ b7, CE encBL w' (b7.add ((0 : Int).toNat * 1)) y → F b7) → kIx a x.q.length 0 F := fun {w' F} h hF => by
            rw [← hLl]
            refine ixE h.1 0 rfl (by omega) fun b7 z hz hb7 => ?_
            obtain rfl : y = z := by rw [hLe] at hz; exact Option.some.inj hz
            exact hF b7 hb7
          have hrl : y.d.length - x.sent.toNat = (restP x d).data.length := by show _ = (d.drop _).length; rw [hyl]; simp
          have hda : ∀ {w}, QL L a w → SlR (IntC .u8) 1 w (slAddr y.c x.sent.toNat 1 y.a) (restP x d).data := fun h => by
            have h1 := (h.2 y hym).1.cut (h.2 y hym).2 (l := x.sent.toNat) (y.d.drop x.sent.toNat).length
            rw [List.take_length, hyd.1] at h1
            exact h1
          have hcp : (restP x d).data.length ≤ y.c - x.sent.toNat := by
            have := (H5.get.2 y hym).2
            rw [← hrl]; omega
          refine ⟨fun p w13 => ∃ bp : Nat, p = (⟨bp, 0, none⟩ : Addr) ∧ St A [] w w13 [.blk b Ty_api_Cutter (encCu x a c), .blk b1 Ty_api_Cutter [.int .i64 0, .int .i64 0, .slice none 0 0, .int .i64 0], .blk bp Ty_api_Piece [.int .i64 x.next, .int .i64 0, .int .i64 0, .int .i64 x.sent, .slice (slAddr y.c x.sent.toNat 1 y.a) (restP x d).data.length (y.c - x.sent.toNat)]] (QL L a), ?_, ?_⟩
          · rintro _ _ w13 ⟨bp, rfl, H13⟩
            clear H5
            refine ⟨fun w15 => St A [] w w15 [.blk b Ty_api_Cutter (encCu x a c), .blk b1 Ty_api_Cutter [.int .i64 0, .int .i64 0, .slice none 0 0, .int .i64 0], .blk bp Ty_api_Piece [.int .i64 x.next, .int .i64 (if x.sent = 0 then 0 else 2), .int .i64 0, .int .i64 x.sent, .slice (slAddr y.c x.sent.toNat 1 y.a) (restP x d).data.length (y.c - x.sent.toNat)]] (QL L a), ?_, ?_⟩
            · rintro _ w15 H15
              clear H13
              refine H15.ld (i := 0) rfl rfl ?_
              refine ⟨_, _, _, _, _, _, _, H15.cells (i := 2) rfl, ?_⟩
              have C := ref18_Cut_ct (bits := x.bits) (p_0 := x.next) (p_1 := if x.sent = 0 then 0 else 2) (p_2 := 0) (p_3 := x.sent) (p_4_c := y.c - x.sent.toNat) (hda H15.get) (by omega) hcp hsz
              have e1 : (⟨x.next, if x.sent = 0 then 0 else 2, 0, x.sent, (restP x d).data⟩ : Pc) = restP x d := rfl
              rw [e1, ← hcu] at C
              refine C.mono ?_; clear C
              rintro _ w16 ⟨pa, pc, pa', pc', hpc, hpc', rfl, K⟩; have H16 := H15.callF K; clear K H15
              rw [List.append_nil] at H16
              refine ⟨_, _, _, _, _, _, _, _, _, _, _, _, _, _, _, rfl, ?_⟩
              refine H16.alloc ?_; clear H16; intro b5 w17 H17
              refine H17.alloc ?_; clear H17; intro b6 w18 H18
              simp only [List.cons_append, List.nil_append] at H18
              refine H18.store (i := 3) rfl (by rfl) (by rfl) ?_; clear H18; intro w19 H19
              refine H19.store (i := 4) rfl (by rfl) (by rfl) ?_; clear H19; intro w20 H20
              replace H20 : St A [] w w20 [.blk b Ty_api_Cutter (encCu x a c), .blk b1 Ty_api_Cutter [.int .i64 0, .int .i64 0, .slice none 0 0, .int .i64 0], .blk bp Ty_api_Piece [.int .i64 x.next, .int .i64 (if x.sent = 0 then 0 else 2), .int .i64 0, .int .i64 x.sent, .slice (slAddr y.c x.sent.toNat 1 y.a) (restP x d).data.length (y.c - x.sent.toNat)], .blk b5 Ty_api_Piece (encPc cu.1 pa pc)] (fun w => SlR (IntC .u8) 1 w pa cu.1.data ∧ QL L a w) := (St.dropLast (R := [_, _, _, _]) H20).imp fun _ h => ⟨h.1.1, h.2⟩
              refine bsplit_nd (fun c3 => ?_) (fun c3 => ?_)
              · refine ⟨_, _, _, _, _, _, H20.cells (i := 0) rfl, ?_⟩
                exact fin (by rw [hB, if_pos c3]) (fun _ h => h.2) H20
              · have hc0 : (cutP x.bits (restP x d) size).2.2 = 0 := by rw [← hcu]; simpa using c3
                obtain ⟨k1, k2, k3⟩ := cut_ok hro hc0
                rw [← hcu] at k1 k2 k3
                have k4 : cu.1.data.length ≤ d.length := by
                  have := congrArg List.length k2
                  rw [List.length_take] at this
                  have h2 : (restP x d).data.length ≤ d.length := by show (d.drop _).length ≤ _; simp
                  omega
                have hB2 : buildC x size = (afterC x d l cu.1.data.length, cu.1.bytes, 0) := by rw [hB, if_neg (fun h => h c3), enc_ok k1]
                refine H20.ld (i := 0) rfl rfl ?_
                refine ⟨_, _, _, _, _, _, _, H20.cells (i := 3) rfl, ?_⟩
                have C := ref18_Encode_ct (bits := x.bits) (p_0 := cu.1.sn) (p_1 := cu.1.part) (p_2 := cu.1.poll) (p_3 := cu.1.off) (p_4_c := pc) H20.get.1 (by omega)
                have e1 : (⟨cu.1.sn, cu.1.part, cu.1.poll, cu.1.off, cu.1.data⟩ : Pc) = cu.1 := rfl
                rw [e1, enc_ok k1] at C
                refine C.mono ?_; clear C
                rintro _ w22 ⟨ra, rc, hrc, rfl, K⟩; have H22 := H20.callF K; clear K H20
                rw [List.append_nil] at H22
                refine ⟨_, _, _, _, rfl, ?_⟩
                refine H22.ld (i := 0) rfl rfl ?_
                refine H22.ldS (i := 3) rfl rfl ?_
                refine kW_i64 (by omega) ?_
                refine H22.set (i := 0) rfl (by show 3 < 4; decide) ?_; clear H22; intro w23 H23
                refine H23.drew ?_; clear H23; intro w24 H24
                replace H24 : St A [] w w24 [.blk b Ty_api_Cutter [.int .i64 x.bits, .int .i64 x.next, .slice a x.q.length c, .int .i64 (x.sent + cu.1.data.length)], .blk b1 Ty_api_Cutter [.int .i64 0, .int .i64 0, .slice none 0 0, .int .i64 0]] (fun w => SlR (IntC .u8) 1 w ra cu.1.bytes ∧ QL L a w) := (St.left (X := [_, _]) H24).imp fun _ h => ⟨h.1, h.2.2⟩
                refine H24.ld (i := 0) rfl rfl ?_
                refine H24.ldS (i := 0) rfl rfl ?_
                refine hix H24.get.2 fun b7 hb7 => ?_
                refine ⟨_, _, _, hb7.1, ?_⟩
                refine bsplit_dec (fun c2 => ?_) (fun c2 => ?_)
                · have ha : afterC x d l cu.1.data.length = { x with q := l, sent := 0, next := (x.next + 1) % 2 ^ x.bits.toNat } := by unfold afterC; rw [if_pos (by rw [hyd.1] at c2; exact c2)]
                  refine H24.set (i := 0) rfl (by show 3 < 4; decide) ?_; clear H24; intro w25 H25
                  refine H25.ld (i := 0) rfl rfl ?_
                  refine kW_i64 (by omega) ?_
                  refine H25.ld (i := 0) rfl rfl ?_
                  refine kW_u64 (by omega) ?_
                  refine ⟨by omega, ?_⟩
                  refine kShl1 (by omega) ?_
                  refine ⟨by omega, ?_⟩
                  refine kTmod (by omega) ?_
                  refine H25.set (i := 0) rfl (by show 1 < 4; decide) ?_; clear H25; intro w26 H26
                  refine H26.alloc ?_; clear H26; intro b8 w27 H27
                  simp only [List.set_cons_zero, List.cons_append, List.nil_append, List.set_cons_succ] at H27
                  have H27 := H27.litE encBL_ok (i := 2) [] rfl (by decide)
                  refine H27.ldS (i := 0) rfl rfl ?_
                  refine ⟨⟨by omega, by omega⟩, ?_⟩
                  have el : x.q.length - (1 : Int).toNat = L'.length := by rw [← hLl, hLe]; simp
                  rw [el]
                  have hcc : L.length ≤ c := by omega
                  have hs1 : SlR (CE encBL) 1 w27 (slAddr c (1 : Int).toNat 1 a) L' := by
                    have h1 := H27.get.2.1.cutE hcc (L.drop 1).length (l := 1)
                    have e2 : (L.drop 1).take (L.drop 1).length = L' := by rw [List.take_length, hLe]; rfl
                    rw [e2] at h1
                    exact h1
                  refine H27.appE encBL_ok (i := 2) rfl sl_Ty_S_S_uint8 hs1 (by simp; omega) (by simp; omega) ?_
                  intro x_a7 x_c7 w28 H28
                  simp only [List.set_cons_succ, List.set_cons_zero, List.nil_append] at H28
                  refine H28.set (i := 0) rfl (by show 2 < 4; decide) ?_; clear H28; intro w29 H29
                  refine ⟨_, _, _, _, _, _, H29.cells (i := 0) rfl, ?_⟩
                  refine H29.store (i := 1) rfl (by rfl) (by rfl) ?_; clear H29; intro w30 H30
                  refine ⟨_, _, _, _, _, _, H30.cells (i := 1) rfl, ?_⟩
                  rw [hB2, ha]
                  have el2 : L'.length = l.length := by rw [← hyd.2, List.length_map]
                  refine ⟨x_a7, x_c7, L', ra, rc, hyd.2, ?_, hrc, ?_, ?_⟩
                  · rw [List.nil_append, el2]
                  · have := H30.capE (i := 2) rfl
                    show l.length ≤ _
                    rw [← el2]; exact this
                  · have K := (H30.shareE encBL_ok (i := 2) rfl).fin
                    exact K.imp fun w h => ⟨h.2.1, h.1, fun z hz => h.2.2.2 z (by rw [hLe]; simp [hz])⟩
                · have ha : afterC x d l cu.1.data.length = { x with sent := x.sent + cu.1.data.length } := by unfold afterC; rw [if_neg (by rw [hyd.1] at c2; exact c2)]
                  refine ⟨_, _, _, _, _, _, H24.cells (i := 0) rfl, ?_⟩
                  refine H24.store (i := 1) rfl (by rfl) (by rfl) ?_; clear H24; intro w31 H31
                  refine ⟨_, _, _, _, _, _, H31.cells (i := 1) rfl, ?_⟩
                  rw [hB2, ha]
                  exact ⟨a, c, L, ra, rc, hL, rfl, hrc, hxc, H31.fin⟩
            · refine H13.ld (i := 0) rfl rfl ?_
              refine bsplit_dec (fun c1 => ?_) (fun c1 => ?_)
              · try rw [add_mk]
                refine H13.set (i := 2) rfl (by show 1 < 5; decide) ?_; clear H13; intro w14 H14
                rw [if_neg (by omega)]
                exact H14
              · rw [if_pos (by omega)]
                exact H13
          · refine H5.drew ?_; clear H5; intro w8 H8
            refine ⟨(· < w8.heap.size), ?_⟩
            refine ⟨H8.lt (i := 0) rfl rfl, ?_⟩
            refine H8.ld (i := 0) rfl rfl ?_
            refine ⟨H8.lt (i := 0) rfl rfl, ?_⟩
            refine H8.ld (i := 0) rfl rfl ?_
            refine ⟨H8.lt (i := 0) rfl rfl, ?_⟩
            refine H8.ldS (i := 0) rfl rfl ?_
            refine hix H8.get fun b7 hb7 => ?_
            refine ⟨cell_lt hb7.1, ?_⟩
            refine ⟨_, _, _, hb7.1, ?_⟩
            refine ⟨H8.lt (i := 0) rfl rfl, ?_⟩
            refine H8.ld (i := 0) rfl rfl ?_
            refine ⟨⟨by omega, by omega⟩, ?_⟩
            rw [hrl]
            refine ⟨?_, ?_, trivial⟩
            · refine ⟨KeepsB.refl _ _, ?_⟩
              refine H8.allocB ?_; intro b3 w9 hb9 H9
              refine ⟨hb9.keeps, ?_⟩
              refine H9.store (i := 2) rfl (by rfl) (by rfl) ?_; intro w10 H10
              exact ⟨b3, rfl, H10⟩
            · refine H8.allocB ?_; intro b4 w11 hb11 H11
              refine ⟨hb11.keeps, ?_⟩
              refine ⟨hb11.keeps, ?_⟩
              refine H11.store (i := 2) rfl (by rfl) (by rfl) ?_; intro w12 H12
              exact ⟨b4, rfl, H12⟩
    · refine bsplit_dec (fun c => ?_) (fun c => ?_)
      · exact ⟨⟨fun _ => .inl c, fun _ => rfl⟩, H3⟩
      · refine kLet_in ?_
        exact ⟨by rw [decide_eq_true_iff]; omega, H3⟩
end
end Go.Proofs.YtlgolgpellbnbaaGreat
namespace Go.Sx
open Go.RowKit
theorem ba_refl (s : ByteArray) : (s == s) = true := by
  rcases s with ⟨x⟩
  show (x == x) = true
  simp
theorem Held.weaken {A : Nat → Prop} {w : World} {P Q : World → Prop} (h : Held A w P) (k : ∀ w, P w → Q w) : Held A w Q := ⟨h.1, fun w' hw => k w' (h.2 w' hw)⟩
end Go.Sx
namespace Go.Proofs.YtlgolgpellbnbaaGreat
open Go.Sx Go.RowKit
set_option maxRecDepth 100000
theorem ql_held {w : World} {L : List BL} {a : Option Addr} (h : QL L a w) : Held (All w) w (QL L a) :=
  ⟨fun _ h => h, fun w' hw => ⟨(sle_held h.1).2 w' hw, fun x hx => ⟨(slr_held (h.2 x hx).1).2 w' hw, (h.2 x hx).2⟩⟩⟩
theorem convBC {P : Program} {s e : TypeId} (hs : P.underlying s = some (.slice e)) (he : P.underlying e = some (.int .u8)) {w : World} (bs : List Int) {n c : Nat} (hn : n = bs.length) {F : Nat → Option Addr → Nat → Nat → World → Prop}
    (h : ∀ b w', (Fresh w w' fun w => SlR (IntC .u8) 1 w (some ⟨b, 0, none⟩) bs) → F b (some ⟨b, 0, none⟩) bs.length c w') {cs : Array Value} (hcs : cs = (bs.map (Value.int .u8)).toArray) :
    kAlloc w cs e fun b w1 => ConvB P s s (.slice (some ⟨b, 0, none⟩) n c) w1 (F b) := by
  subst hn; subst hcs
  refine ⟨_, _, _, _, Go.Lib.run_convert_bytes_const w s e _ _ c hs he, h _ _ ?_⟩
  have key : ∀ w' : World, w'.heap[w.heap.size]? = some (.cells (bs.map (Value.int .u8)).toArray e ((bs.map (Value.int .u8)).toArray.size, (bs.map (Value.int .u8)).toArray.size + 1)) → SlR (IntC .u8) 1 w' (some ⟨w.heap.size, 0, none⟩) bs := fun w' hw => by
    refine .inr ⟨_, rfl, fun i hi => ?_⟩
    show w'.cell? _ = _
    rw [add_mk, Nat.zero_add, Nat.mul_one]
    simp [World.cell?, hw, hi]
  have hnew : ∀ o : Obj, (w.alloc o).heap[w.heap.size]? = some o := fun o => by
    show (w.heap.push o)[w.heap.size]? = _
    simp
  have hB := (Below.refl w.heap.size w).alloc (Nat.le_refl _) (.cells (bs.map (Value.int .u8)).toArray e ((bs.map (Value.int .u8)).toArray.size, (bs.map (Value.int .u8)).toArray.size + 1))
  refine ⟨hB.fr [], fun i r h => by simp at h, fun i r h => by simp at h, fun i j r s h => by simp at h, fun b => b = w.heap.size, ⟨fun b hb => ?_, fun w' hw => key w' ((hw _ rfl).trans (hnew _))⟩, fun b hb => .inr (by omega), fun i r h => by simp at h⟩
  subst hb
  rcases Nat.lt_or_ge w.heap.size (w.alloc (.cells (bs.map (Value.int .u8)).toArray e ((bs.map (Value.int .u8)).toArray.size, (bs.map (Value.int .u8)).toArray.size + 1))).heap.size with h | h
  · exact h
  · have := hnew (.cells (bs.map (Value.int .u8)).toArray e ((bs.map (Value.int .u8)).toArray.size, (bs.map (Value.int .u8)).toArray.size + 1))
    rw [Array.getElem?_eq_none h] at this; cases this
section
variable {a b : Option Addr} {c1 c2 : Nat} {xs ys : List Int} {Q : List (List Int)} {w : World}
theorem roll_Same_eq (ha : SlR (IntC .u8) 1 w a xs) (hb : SlR (IntC .u8) 1 w b xs) :
    Calls Tryz.prog N_roll_Same #[.slice a xs.length c1, .slice b xs.length c2] w fun e w' => e = .returned (.bool true) ∧ Below w.heap.size w w' := by
  apply F_roll_Same_ok
  unfold F_roll_Same
  refine convS_bytes (e := Ty_uint8) (by kernel_rfl) (by kernel_rfl) (by kernel_rfl) ha ?_
  refine convS_bytes (e := Ty_uint8) (by kernel_rfl) (by kernel_rfl) (by kernel_rfl) hb ?_
  exact ⟨by rw [ba_refl], .refl _ _⟩
theorem roll_SameAll_ct (ha : QR w a Q) (hb : QR w b Q) (hl : Q.length ≤ 140737488355328) :
    Calls Tryz.prog N_roll_SameAll #[.slice a Q.length c1, .slice b Q.length c2] w fun e w' => e = .returned (.bool true) ∧ Below w.heap.size w w' := by
  apply F_roll_SameAll_ok
  unfold F_roll_SameAll
  have H := St.nil w
  refine bsplit_nd (fun c3 => absurd rfl c3) (fun c3 => ?_)
  refine ⟨fun i => ((Q.length - i).toNat, fun w1 => ∃ k : Nat, i = k ∧ k ≤ Q.length ∧ FreshR w w1 []), ⟨0, rfl, by omega, H⟩, ?_⟩
  clear H
  rintro _ i w1 ⟨k, rfl, hk, H1⟩
  refine bsplit_dec (fun c2 => ?_) (fun c2 => ?_)
  · have hlt : k < Q.length := by omega
    refine H1.drew ?_; clear H1; intro w2 H2
    refine ⟨(· < w2.heap.size), ?_⟩
    refine ixE (qr_below ha H2.below) k rfl hlt fun b1 x hx hb1 => ?_
    obtain rfl : Q[k] = x := by rw [List.getElem?_eq_getElem hlt] at hx; exact Option.some.inj hx
    obtain ⟨a1, cc1, h1, h2, _⟩ := hb1
    refine ⟨cell_lt h1.1, ?_⟩
    refine ⟨_, _, _, h1.1, ?_⟩
    refine ixE (qr_below hb H2.below) k rfl hlt fun b2 x hx hb2 => ?_
    obtain rfl : Q[k] = x := by rw [List.getElem?_eq_getElem hlt] at hx; exact Option.some.inj hx
    obtain ⟨a2, cc2, h3, h4, _⟩ := hb2
    refine ⟨cell_lt h3.1, ?_⟩
    refine ⟨_, _, _, h3.1, ?_⟩
    refine ⟨?_, ?_, trivial⟩
    · refine convS_bytes (e := Ty_uint8) (by kernel_rfl) (by kernel_rfl) (by kernel_rfl) h2 ?_
      refine ⟨KeepsB.refl _ _, ?_⟩
      refine convS_bytes (e := Ty_uint8) (by kernel_rfl) (by kernel_rfl) (by kernel_rfl) h4 ?_
      refine ⟨KeepsB.refl _ _, ?_⟩
      refine bsplit_n (fun c => ?_) (fun c => ?_)
      · rw [ba_refl] at c; cases c
      · refine kW_i64 (by omega) ?_
        exact ⟨⟨k + 1, by omega, by omega, H2⟩, by dsimp only; omega⟩
    · refine convS_bytes (e := Ty_uint8) (by kernel_rfl) (by kernel_rfl) (by kernel_rfl) h4 ?_
      refine ⟨KeepsB.refl _ _, ?_⟩
      refine convS_bytes (e := Ty_uint8) (by kernel_rfl) (by kernel_rfl) (by kernel_rfl) h2 ?_
      refine ⟨KeepsB.refl _ _, ?_⟩
      refine bsplit_n (fun c => ?_) (fun c => ?_)
      · rw [ba_refl] at c; cases c
      · refine kW_i64 (by omega) ?_
        exact ⟨⟨k + 1, by omega, by omega, H2⟩, by dsimp only; omega⟩
  · exact ⟨rfl, H1.below⟩
end
section
variable {x : Cu} {a b : Option Addr} {c c' : Nat} {w : World}
theorem law23_same_ct (ha : QR w a x.q) (hb : QR w b x.q) (hm : SmQ x.q) :
    Calls Tryz.prog N_law23_same #[aggCu x a c, aggCu x b c'] w fun e w' => e = .returned (.bool true) ∧ Below w.heap.size w w' := by
  apply F_law23_same_ok
  unfold F_law23_same
  have H := St.nil w
  refine H.alloc ?_; clear H; intro b0 w1 H1
  refine H1.alloc ?_; clear H1; intro b1 w2 H2
  simp only [List.cons_append, List.nil_append] at H2
  refine H2.ld (i := 0) rfl rfl ?_
  refine H2.ld (i := 1) rfl rfl ?_
  refine bsplit_dec (fun c2 => ?_) (fun c2 => absurd rfl c2)
  refine H2.ld (i := 0) rfl rfl ?_
  refine H2.ld (i := 1) rfl rfl ?_
  refine bsplit_dec (fun c1 => ?_) (fun c1 => absurd rfl c1)
  refine H2.ld (i := 0) rfl rfl ?_
  refine H2.ld (i := 1) rfl rfl ?_
  refine bsplit_dec (fun c => ?_) (fun c => absurd rfl c)
  refine H2.ldS (i := 0) rfl rfl ?_
  refine H2.ldS (i := 1) rfl rfl ?_
  refine (roll_SameAll_ct (qr_below ha H2.below) (qr_below hb H2.below) (by have := hm.1; omega)).mono ?_
  rintro _ w3 ⟨rfl, hb3⟩; have H3 := H2.pass hb3; clear H2
  refine ⟨_, rfl, ?_⟩
  exact ⟨rfl, H3.below⟩
end
theorem sub_sm {x : Cu} {d : List Int} (h : SmQ x.q) (hd : d.length ≤ 140737488355328) : SmQ (subC x d).1.q := by
  unfold subC
  split
  · exact h
  · rename_i h1
    split
    · exact h
    · split
      · exact h
      · have hc : cuOk x := by simpa using h1
        have := hc.2.2.1
        refine ⟨by show (x.q ++ [d]).length ≤ _; simp; omega, fun e he => ?_⟩
        rcases List.mem_append.1 he with he | he
        · exact h.2 e he
        · obtain rfl : e = d := by simpa using he
          exact hd
theorem build_sm {x : Cu} {size : Int} (h : SmQ x.q) : SmQ (buildC x size).1.q := by
  unfold buildC
  split
  · exact h
  · split
    · exact h
    · cases hq : x.q with
      | nil => dsimp only; exact hq ▸ h
      | cons d l =>
        dsimp only
        split
        · exact h
        · unfold afterC
          rw [hq] at h
          split
          · exact ⟨by have := h.1; simp at this; show l.length ≤ _; omega, fun e he => h.2 e (by simp; exact .inr he)⟩
          · show SmQ x.q; rw [hq]; exact h
section
variable {x : Cu} {a : Option Addr} {c : Nat} {w : World} {d : List Int} {da : Option Addr} {dc : Nat} {size : Int} {L : List BL}
theorem law23_agree_ct (hL : L.map (·.d) = x.q) (hQ : QL L a w) (hm : SmQ x.q) (hxc : x.q.length ≤ c) (hd : SlR (IntC .u8) 1 w da d) (hdl : d.length ≤ 140737488355328) (hsz : -9223372036854775808 ≤ size ∧ size ≤ 9223372036854775807) :
    Calls Tryz.prog N_law23_agree #[aggCu x a c, .slice da d.length dc, .int .i64 size] w fun e w' => e = .returned (.bool true) ∧ Below w.heap.size w w' := by
  apply F_law23_agree_ok
  unfold F_law23_agree
  have hq' : ∀ {w}, QL L a w → QR w a x.q := fun h => by rw [← hL]; exact h.qr
  have H := ((St.startA w).hold (ql_held hQ)).hold (slr_held hd)
  refine H.alloc ?_; clear H; intro b w1 H1
  refine ⟨_, _, _, _, _, _, H1.cells (i := 0) rfl, ?_⟩
  refine (unack_Submit_ct (hq' H1.get.2.1) hm H1.get.1 hdl).mono ?_
  obtain ⟨s, hs⟩ : ∃ s, s = subC x d := ⟨_, rfl⟩
  have hsm : SmQ s.1.q := by rw [hs]; exact sub_sm hm hdl
  rw [← hs]
  rintro _ w2 ⟨a2, c2, rfl, K⟩; have H2 := H1.callF K; clear H1 K
  rw [List.append_nil] at H2
  refine ⟨_, _, _, _, _, _, _, rfl, ?_⟩
  refine H2.alloc ?_; clear H2; intro b1 w3 H3
  simp only [List.cons_append, List.nil_append] at H3
  refine H3.store (i := 1) rfl (by rfl) (by rfl) ?_; clear H3; intro w4 H4
  refine ⟨_, _, _, _, _, _, H4.cells (i := 0) rfl, ?_⟩
  obtain ⟨A5, hA5, hc5⟩ := H4.callH
  refine (ref23_Submit_ct hL (hA5.weaken fun _ h => h.2.2.1) hm hxc H4.get.2.1 hdl).mono ?_
  rw [← hs]
  rintro _ w5 ⟨a5, c5, L5, hL5, rfl, _, K⟩; have H5 := hc5 K; clear H4 K hA5 hc5
  refine ⟨_, _, _, _, _, _, _, rfl, ?_⟩
  refine H5.alloc ?_; clear H5; intro b2 w6 H6
  simp only [List.set_cons_succ, List.set_cons_zero, List.cons_append, List.nil_append] at H6
  refine H6.store (i := 2) rfl (by rfl) (by rfl) ?_; clear H6; intro w7 H7
  refine ⟨_, _, _, _, _, _, H7.cells (i := 0) rfl, ?_⟩
  refine (unack_Build_ct (hq' H7.get.2.2.2.1) hm hsz).mono ?_
  obtain ⟨r, hr⟩ : ∃ r, r = buildC x size := ⟨_, rfl⟩
  have hrm : SmQ r.1.q := by rw [hr]; exact build_sm hm
  rw [← hr]
  rintro _ w8 ⟨a8, c8, ba8, bc8, rfl, _, K⟩; have H8 := H7.callF K; clear H7 K
  rw [List.append_nil] at H8
  refine ⟨_, _, _, _, _, _, _, _, _, _, rfl, ?_⟩
  refine H8.alloc ?_; clear H8; intro b3 w9 H9
  simp only [List.set_cons_succ, List.set_cons_zero, List.cons_append, List.nil_append] at H9
  refine H9.store (i := 3) rfl (by rfl) (by rfl) ?_; clear H9; intro w10 H10
  refine ⟨_, _, _, _, _, _, H10.cells (i := 0) rfl, ?_⟩
  obtain ⟨A11, hA11, hc11⟩ := H10.callH
  refine (ref23_Build_ct hL (hA11.weaken fun _ h => h.2.2.2.2.1) hm hxc hsz).mono ?_
  rw [← hr]
  rintro _ w11 ⟨a11, c11, L11, ba11, bc11, hL11, rfl, _, _, K⟩; have H11 := hc11 K; clear H10 K hA11 hc11
  refine ⟨_, _, _, _, _, _, _, _, _, _, rfl, ?_⟩
  refine H11.alloc ?_; clear H11; intro b4 w12 H12
  simp only [List.set_cons_succ, List.set_cons_zero, List.cons_append, List.nil_append] at H12
  refine H12.store (i := 4) rfl (by rfl) (by rfl) ?_; clear H12; intro w13 H13
  refine H13.drew ?_; clear H13; intro w14 H14
  refine ⟨(· < w14.heap.size), ?_⟩
  obtain ⟨⟨g1, g2⟩, ⟨g3, g4⟩, g5, g6, g7, g8, -⟩ := H14.get
  have q5 : ∀ {w'}, Below w14.heap.size w14 w' → QR w' a5 s.1.q := fun h => by rw [← hL5]; exact qr_below g5.qr h
  have q11 : ∀ {w'}, Below w14.heap.size w14 w' → QR w' a11 r.1.q := fun h => by rw [← hL11]; exact qr_below g2.qr h
  have q0 : ∀ {w'}, Below w14.heap.size w14 w' → QR w' a x.q := fun h => by rw [← hL]; exact qr_below g8.qr h
  have hrf := Below.refl w14.heap.size w14
  refine bsplit_dec (fun c5 => ?_) (fun c5 => absurd rfl c5)
  refine bsplit_dec (fun c4 => ?_) (fun c4 => absurd rfl c4)
  refine ⟨_, _, _, _, _, _, H14.cells (i := 1) rfl, ?_⟩
  refine ⟨_, _, _, _, _, _, H14.cells (i := 2) rfl, ?_⟩
  refine (law23_same_ct (x := s.1) g6 (q5 hrf) hsm).mono ?_
  rintro _ w15 ⟨rfl, hb15⟩; have H15 := H14.pass hb15
  refine ⟨_, rfl, ?_⟩
  refine ⟨hb15.keeps, ?_⟩
  refine bsplit_intro (fun c3 => ?_) (fun c3 => by cases c3)
  refine ⟨H14.lt (i := 3) rfl rfl, ?_⟩
  refine ⟨_, _, _, _, _, _, H14.cells (i := 3) rfl, ?_⟩
  refine ⟨H14.lt (i := 4) rfl rfl, ?_⟩
  refine ⟨_, _, _, _, _, _, H14.cells (i := 4) rfl, ?_⟩
  refine (law23_same_ct (x := r.1) (qr_below g3 hb15) (q11 hb15) hrm).mono ?_
  rintro _ w16 ⟨rfl, hb16⟩; have H16 := H15.pass hb16
  refine ⟨_, rfl, ?_⟩
  replace hb16 := below_step hb15 (Nat.le_refl _) hb16
  refine ⟨hb16.keeps, ?_⟩
  refine bsplit_intro (fun c2 => ?_) (fun c2 => by cases c2)
  refine (roll_Same_eq (g4.below hb16) (g1.below hb16)).mono ?_
  rintro _ w17 ⟨rfl, hb17⟩; have H17 := H16.pass hb17
  refine ⟨_, rfl, ?_⟩
  replace hb17 := below_step hb16 (Nat.le_refl _) hb17
  refine ⟨hb17.keeps, ?_⟩
  refine bsplit_intro (fun c1 => ?_) (fun c1 => by cases c1)
  refine ⟨H14.lt (i := 0) rfl rfl, ?_⟩
  refine ⟨_, _, _, _, _, _, H14.cells (i := 0) rfl, ?_⟩
  refine ⟨H14.lt (i := 0) rfl rfl, ?_⟩
  refine ⟨_, _, _, _, _, _, H14.cells (i := 0) rfl, ?_⟩
  refine (unack_Valid_ct (q0 hb17) hm).mono ?_
  rintro _ w18 ⟨rfl, hb18⟩; have H18 := H17.pass hb18
  refine ⟨_, rfl, ?_⟩
  replace hb18 := below_step hb17 (Nat.le_refl _) hb18
  refine ⟨hb18.keeps, ?_⟩
  refine (ref23_Valid_ct (q0 hb18) hm).mono ?_
  rintro _ w19 ⟨rfl, hb19⟩; have H19 := H18.pass hb19
  refine ⟨_, rfl, ?_⟩
  replace hb19 := below_step hb18 (Nat.le_refl _) hb19
  refine ⟨hb19.keeps, ?_⟩
  refine bsplit_intro (fun c => ?_) (fun c => by rw [beq_self_eq_true] at c; cases c)
  refine ⟨H14.lt (i := 0) rfl rfl, ?_⟩
  refine ⟨_, _, _, _, _, _, H14.cells (i := 0) rfl, ?_⟩
  refine ⟨H14.lt (i := 0) rfl rfl, ?_⟩
  refine ⟨_, _, _, _, _, _, H14.cells (i := 0) rfl, ?_⟩
  refine (unack_Waiting_ct (q0 hb19) hm).mono ?_
  rintro _ w20 ⟨rfl, hb20⟩; have H20 := H19.pass hb20
  refine ⟨_, rfl, ?_⟩
  replace hb20 := below_step hb19 (Nat.le_refl _) hb20
  refine ⟨hb20.keeps, ?_⟩
  refine (ref23_Waiting_ct (q0 hb20) hm).mono ?_
  rintro _ w21 ⟨rfl, hb21⟩; have H21 := H20.pass hb21
  refine ⟨_, rfl, ?_⟩
  refine kLet_in ?_
  exact ⟨by rw [decide_eq_true rfl], H21.below⟩
end
end Go.Proofs.YtlgolgpellbnbaaGreat
namespace Go.Sx
def digits : List Int := [48, 49, 50, 51, 52, 53, 54, 55, 56, 57]
def awS : Nat → Cu × Rc × Int
  | 0 => ((subC (newU 5 3).1 digits).1, (newU 5 3).2.1, 0)
  | k + 1 => ((buildC (awS k).1 7).1, plainR (recS (awS k).2.1 (buildC (awS k).1 7).2.1).1, (awS k).2.2 + (recS (awS k).2.1 (buildC (awS k).1 7).2.1).2.1.length)
theorem aw_facts : ∀ k, k < 3 → (buildC (awS k).1 7).2.2 = 0 ∧ (recS (awS k).2.1 (buildC (awS k).1 7).2.1).2.2 = 0 ∧ (∀ x ∈ (buildC (awS k).1 7).2.1, 0 ≤ x ∧ x < 256) ∧ (buildC (awS k).1 7).2.1.length ≤ 10 ∧ (recS (awS k).2.1 (buildC (awS k).1 7).2.1).2.1.length ≤ 100 ∧ (0 ≤ (awS k).2.2 ∧ (awS k).2.2 ≤ 100) := by decide +kernel
theorem aw_end : (newU 5 3).2.2 = 0 ∧ (newU 5 3).2.1.parts = [] ∧ (subC (newU 5 3).1 digits).2 = 0 ∧ (awS 3).2.2 = 10 ∧ waitC (awS 3).1 = 0 ∧ (awS 3).1.next = 1 ∧ cuOk (awS 3).1 := by decide +kernel
end Go.Sx
namespace Go.Proofs.YtlgolgpellbnbaaGreat
open Go.Sx Go.RowKit
set_option maxRecDepth 100000
theorem aw_sm : ∀ k, SmQ (awS k).1.q
  | 0 => sub_sm (by refine ⟨?_, ?_⟩ <;> (unfold newU; split <;> simp [Cu.zero])) (by decide)
  | k + 1 => build_sm (aw_sm k)
theorem aw_gp : ∀ k, k ≤ 3 → GP (awS k).2.1.parts
  | 0, _ => by
    show GP (newU 5 3).2.1.parts
    rw [aw_end.2.1]; exact gp_nil
  | k + 1, h => (rec_gp (aw_gp k (by omega)) (bytes_mem.2 (aw_facts k (by omega)).2.2.1)).1
theorem law23_awake_ct {w : World} :
    Calls Tryz.prog N_law23_awake #[] w fun e w' => e = .returned (.bool true) ∧ Below w.heap.size w w' := by
  obtain ⟨z1, z2, z3, z4, z5, z6, z7⟩ := aw_end
  apply F_law23_awake_ok
  unfold F_law23_awake
  have H := St.nil w
  refine (unack_New_ct (n := 5) (wait := 3)).mono ?_
  obtain ⟨p, hp⟩ : ∃ p, p = newU 5 3 := ⟨_, rfl⟩
  rw [← hp] at z1 z2 z3 ⊢
  have hpq : p.1.q = [] := by rw [hp]; unfold newU; split <;> rfl
  rintro _ w1 ⟨rfl, hb1⟩; have H1 := H.pass hb1; clear H
  refine ⟨_, _, _, _, _, _, _, _, _, _, _, _, _, _, _, _, _, _, _, _, _, _, _, rfl, ?_⟩
  refine H1.alloc ?_; clear H1; intro b w2 H2
  refine H2.alloc ?_; clear H2; intro b1 w3 H3
  simp only [List.cons_append, List.nil_append] at H3
  refine H3.store (i := 0) rfl (by rfl) (by rfl) ?_; clear H3; intro w4 H4
  refine H4.store (i := 1) rfl (by rfl) (by rfl) ?_; clear H4; intro w5 H5
  replace H5 : FreshR w w5 [.blk b Ty_api_Cutter (encCu p.1 none 0), .blk b1 Ty_api_Receiver (encRc p.2.1 none 0)] := H5
  refine ⟨_, _, _, _, _, _, H5.cells (i := 0) rfl, ?_⟩
  refine convBC (e := Ty_uint8) (by kernel_rfl) (by kernel_rfl) digits rfl (fun b2 w7 K => ?_) rfl
  have H7 := H5.callF K; clear H5 K
  rw [List.append_nil] at H7
  refine (unack_Submit_ct (x := p.1) (a := none) (c := 0) (by rw [hpq]; exact .nil) ⟨by rw [hpq]; simp, by rw [hpq]; simp⟩ H7.get.1 (by decide)).mono ?_
  rintro _ w8 ⟨a8, c8, rfl, K⟩; have H8 := H7.callF K; clear H7 K
  rw [List.append_nil] at H8
  refine ⟨_, _, _, _, _, _, _, rfl, ?_⟩
  refine H8.store (i := 0) rfl (by rfl) (by rfl) ?_; clear H8; intro w9 H9
  have e0 : (awS 0).1 = (subC p.1 digits).1 := by rw [hp]; rfl
  have e1 : (awS 0).2.1 = p.2.1 := by rw [hp]; rfl
  refine ⟨fun n i => ((3 - i).toNat, fun w10 => ∃ (k : Nat) (s : Cu × Rc × Int) (a : Option Addr) (c : Nat) (ra : Option Addr) (rc : Nat), i = k ∧ k ≤ 3 ∧ s = awS k ∧ n = s.2.2 ∧ St (fun _ => False) [] w w10 [.blk b Ty_api_Cutter (encCu s.1 a c), .blk b1 Ty_api_Receiver (encRc s.2.1 ra rc)] (fun w => QR w a s.1.q ∧ PaR w ra s.2.1.parts)), ⟨0, awS 0, a8, c8, none, 0, rfl, by omega, rfl, rfl, ?_⟩, ?_⟩
  · rw [e0, e1]
    exact H9.imp fun w h => ⟨h.1, by rw [z2]; exact .nil⟩
  clear H9
  rintro _ n i w10 ⟨k, s, a, c, ra, rc, rfl, hk, hs, rfl, H10⟩
  have hsm : SmQ s.1.q := by rw [hs]; exact aw_sm k
  have hgp : GP s.2.1.parts := by rw [hs]; exact aw_gp k hk
  refine bsplit_dec (fun c7 => ?_) (fun c7 => ?_)
  · have hf := aw_facts k (by omega)
    have hnx : awS (k + 1) = ((buildC (awS k).1 7).1, plainR (recS (awS k).2.1 (buildC (awS k).1 7).2.1).1, (awS k).2.2 + (recS (awS k).2.1 (buildC (awS k).1 7).2.1).2.1.length) := rfl
    rw [← hs] at hf hnx
    obtain ⟨B, hB⟩ : ∃ B, B = buildC s.1 7 := ⟨_, rfl⟩
    obtain ⟨R, hR⟩ : ∃ R, R = recS s.2.1 B.2.1 := ⟨_, rfl⟩
    rw [← hB, ← hR] at hf hnx
    obtain ⟨f1, f2, f3, f4, f5, f6⟩ := hf
    refine ⟨_, _, _, _, _, _, H10.cells (i := 0) rfl, ?_⟩
    refine (unack_Build_ct H10.get.1 hsm (by omega)).mono ?_
    rw [← hB]
    rintro _ w11 ⟨a11, c11, ba11, bc11, rfl, hbc, K⟩; have H11 := H10.callF K; clear H10 K
    rw [List.append_nil] at H11
    refine ⟨_, _, _, _, _, _, _, _, _, _, rfl, ?_⟩
    refine H11.alloc ?_; clear H11; intro b3 w12 H12
    simp only [List.cons_append, List.nil_append] at H12
    refine H12.store (i := 2) rfl (by rfl) (by rfl) ?_; clear H12; intro w13 H13
    refine ⟨_, _, _, _, _, _, _, _, _, _, _, _, _, _, _, _, H13.cells (i := 1) rfl, ?_⟩
    refine (unack_Receive_ct H13.get.2.2 hgp.sm H13.get.1.2 (bytes_mem.2 f3) (by omega) hbc).mono ?_
    rw [← hR]
    rintro _ w14 ⟨a14, c14, ba14, bc14, rfl, _, K⟩; have H14 := H13.callF K; clear H13 K
    rw [List.append_nil] at H14
    refine ⟨_, _, _, _, _, _, _, _, _, _, _, _, _, _, _, _, _, _, _, _, rfl, ?_⟩
    refine H14.alloc ?_; clear H14; intro b4 w15 H15
    simp only [List.set_cons_succ, List.set_cons_zero, List.cons_append, List.nil_append] at H15
    refine H15.store (i := 3) rfl (by rfl) (by rfl) ?_; clear H15; intro w16 H16
    refine bsplit_nd (fun c1 => absurd f1 c1) (fun c1 => ?_)
    refine bsplit_nd (fun c0 => absurd f2 c0) (fun c0 => ?_)
    refine H16.drew ?_; clear H16; intro w17 H17
    refine ⟨fun z => z = b4, ?_⟩
    refine ⟨_, _, _, _, _, _, H17.cells (i := 2) rfl, ?_⟩
    refine ⟨rfl, ?_⟩
    refine ⟨_, _, _, _, _, _, _, _, _, _, _, _, _, _, _, _, H17.cells (i := 3) rfl, ?_⟩
    refine kW_i64 (by omega) ?_
    refine H17.store (i := 0) rfl (by rfl) (by rfl) ?_; intro w18 H18
    refine ⟨keepB1 (H17.ok 3 _ rfl) (H18.ok 3 _ rfl), ?_⟩
    clear H17
    refine H18.store (i := 1) rfl (by rfl) (by rfl) ?_; clear H18; intro w19 H19
    refine kW_i64 (by omega) ?_
    refine ⟨⟨k + 1, awS (k + 1), a11, c11, a14, c14, by omega, by omega, rfl, by rw [hnx], ?_⟩, by dsimp only; omega⟩
    rw [hnx]
    exact (St.left (X := [_, _]) H19).imp fun w h => ⟨h.2.1.1, h.1.1⟩
  · obtain rfl : k = 3 := by omega
    rw [← hs] at z4 z5 z6 z7
    refine bsplit_dec (fun c6 => ?_) (fun c6 => absurd z1 c6)
    refine bsplit_dec (fun c5 => ?_) (fun c5 => absurd z3 c5)
    refine bsplit_dec (fun c4 => ?_) (fun c4 => absurd z4 c4)
    refine ⟨_, _, _, _, _, _, H10.cells (i := 0) rfl, ?_⟩
    refine (unack_Waiting_ct H10.get.1 hsm).mono ?_
    rintro _ w20 ⟨rfl, hb20⟩; have H20 := H10.pass hb20; clear H10
    refine ⟨_, rfl, ?_⟩
    refine bsplit_dec (fun c3 => ?_) (fun c3 => absurd z5 c3)
    refine H20.ld (i := 0) rfl rfl ?_
    refine bsplit_dec (fun c2 => ?_) (fun c2 => absurd z6 c2)
    refine ⟨_, _, _, _, _, _, H20.cells (i := 0) rfl, ?_⟩
    refine (unack_Valid_ct H20.get.1 hsm).mono ?_
    rintro _ w21 ⟨rfl, hb21⟩; have H21 := H20.pass hb21; clear H20
    refine ⟨_, rfl, ?_⟩
    exact ⟨by rw [decide_eq_true z7], H21.below⟩
theorem awakeTo {w w' : World} {R : List Res} {A : Nat → Prop} {P : World → Prop} (H : St A [] w w' R P) : Calls Tryz.prog N_law23_awake #[] w' fun e w'' => ∃ r : Bool, e = .returned (.bool r) ∧ (Ending.returned (.bool r) = .returned (.bool true) ∧ Below w.heap.size w w'') := by
  refine law23_awake_ct.mono ?_
  rintro _ w2 ⟨rfl, hb2⟩
  exact ⟨_, rfl, rfl, (H.pass hb2).below⟩
end Go.Proofs.YtlgolgpellbnbaaGreat
