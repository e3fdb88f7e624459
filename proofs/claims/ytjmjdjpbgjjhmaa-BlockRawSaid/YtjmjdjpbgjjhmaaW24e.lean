import Derived.Test.YtjmjdjpbgjjhmaaW24d
import Derived.Test.YtjmjdjpbgjjhmaaRoll
namespace Go.Proofs.Ytjmjdjpbgjjhmaa
open Go.Sx Go.RowKit

/-- sections that are made of numbers -/
structure MadeS (L : List Sec) : Prop where
  len : L.length ≤ 7
  ok : ∀ s ∈ L, secE s.ch s.data.length = 0 ∧ Bytes s.data ∧ s.data.length ≤ 20
theorem MadeS.snoc {L : List Sec} (h : ∀ s ∈ L, secE s.ch s.data.length = 0 ∧ Bytes s.data ∧ s.data.length ≤ 20) {s : Sec} (hs : secE s.ch s.data.length = 0 ∧ Bytes s.data ∧ s.data.length ≤ 20) : ∀ t ∈ L ++ [s], secE t.ch t.data.length = 0 ∧ Bytes t.data ∧ t.data.length ≤ 20 := fun t ht => by
  rcases List.mem_append.1 ht with h2 | h2
  · exact h t h2
  · simp at h2; subst h2; exact hs
theorem used_le {L : List Sec} (h : ∀ s ∈ L, s.data.length ≤ 20) : usedS L ≤ 22 * L.length := by
  induction L with
  | nil => simp [usedS]
  | cons s l ih =>
    have := ih fun t ht => h t (by simp [ht])
    have := h s (by simp)
    simp only [usedS, List.length_cons]; omega
theorem MadeS.used {L : List Sec} (h : MadeS L) : usedS L ≤ 154 := by
  have := used_le fun s hs => (h.ok s hs).2.2
  have := h.len; omega
theorem firstE_zero {L : List Sec} (h : ∀ s ∈ L, secE s.ch s.data.length = 0) : firstE L = 0 := by
  induction L with
  | nil => rfl
  | cons s l ih => simp only [firstE]; rw [if_neg (by simpa using h s (by simp))]; exact ih fun t ht => h t (by simp [ht])

section
variable {g : Nat} {a : Option Addr} {c : Nat} {ts : List Int} {p : Nat} {w : World} {A : Nat → Prop} {P : World → Prop}
theorem law24_sections_ct (hP : Held A w P) (hts : Rolls a ts P) (hB : (rdice g a c ts p).ok w) (hn : ∀ b, (rdice g a c ts p).at = some b → ¬ A b) (hp : p ≤ ts.length) :
    Calls Try.prog N_law24_sections #[(.pointer (some ⟨g, 0, none⟩))] w fun e w' => ∃ ra rc L xs p', e = .returned (.slice ra L.length rc) ∧ MadeS L ∧ p' ≤ ts.length ∧ St A [g] w w' [rdice g a c ts p', .els encX Ty_api_Section 2 ra rc xs] (fun w => DatR w xs L ∧ P w) := by
  apply F_law24_sections_ok
  unfold F_law24_sections
  have H : St A [g] w w [rdice g a c ts p] P := St.startM hP hB hn
  refine rNext H (i := 0) rfl hts hp (by omega) fun r p1 w1 _ hr hp1 H1 => ?_
  have hr := hr (by omega)
  obtain ⟨m, rfl⟩ := natOf hr.1
  have H1 := H1.nilE encX Ty_api_Section 2
  refine ⟨fun l_a l_l l_c i => (i.toNat, fun w2 => ∃ (k : Nat) (L : List Sec) (xs : List XSec) (p2 : Nat), i = k ∧ L.length + k = m ∧ l_l = xs.length ∧ (∀ s ∈ L, secE s.ch s.data.length = 0 ∧ Bytes s.data ∧ s.data.length ≤ 20) ∧ p2 ≤ ts.length ∧ St A [g] w w2 [rdice g a c ts p2, .els encX Ty_api_Section 2 l_a l_c xs] (fun w => DatR w xs L ∧ P w)), ⟨m, [], [], p1, rfl, by simp, rfl, fun s hs => by simp at hs, hp1, H1.imp fun _ h => ⟨.nil _, h⟩⟩, ?_⟩ --! I none 0 0 r
  clear H1
  rintro _ l_a l_l l_c i w2 ⟨k, L, xs, p2, rfl, hk, rfl, hL, hp2, H2⟩
  have hts2 : Rolls a ts (fun w => DatR w xs L ∧ P w) := hts.and _
  have hxl := H2.get.1.1
  refine bsplit_dec (fun c2 => ?_) (fun c2 => ?_) --  (decide (i > (0 : Int)))
  · refine rNext H2 (i := 0) rfl hts2 hp2 (by omega) fun ch p3 w3 _ hch hp3 H3 => ?_
    have hch := hch (by omega)
    clear H2
    -- a section more
    have go : ∀ {cc : Int} {n : Nat} {x : Int}, x = n → n ≤ 20 → secE cc n = 0 → ∀ {p4 : Nat} {w4 : World}, p4 ≤ ts.length → St A [g] w w4 [rdice g a c ts p4, .els encX Ty_api_Section 2 l_a l_c xs] (fun w => DatR w xs L ∧ P w) →
        Calls Try.prog N_roll_Dice_Bytes #[(.pointer (some ⟨g, 0, none⟩)), (.int .i64 x)] w4 fun e w5 => ∃ (ra : Option Addr) (rl rc : Nat), e = .returned (.slice ra rl rc) ∧
          kAlloc w5 #[.int .i64 cc, .slice ra rl rc] Ty_api_Section fun b w6 => AppP Try.prog #[Ty_S_api_Section, Ty_S_api_Section] Ty_S_api_Section #[.slice l_a xs.length l_c, .slice (some ⟨b, 0, none⟩) 1 1] w6 fun x_a x_l x_c w7 =>
            ∃ (L2 : List Sec) (xs2 : List XSec), L2.length = L.length + 1 ∧ x_l = xs2.length ∧ (∀ s ∈ L2, secE s.ch s.data.length = 0 ∧ Bytes s.data ∧ s.data.length ≤ 20) ∧ ∃ p5, p5 ≤ ts.length ∧ St A [g] w w7 [rdice g a c ts p5, .els encX Ty_api_Section 2 x_a x_c xs2] (fun w => DatR w xs2 L2 ∧ P w) := by
      intro cc n x hx hn' he p4 w4 hp4 H4
      refine rBytes H4 (i := 0) rfl hts2 hp4 n (by omega) hx fun ra rc bs p5 w5 hb hbl hp5 H5 => ?_
      have hcap := H5.capI (i := 2) rfl
      have H5 := H5.shareMI (i := 2) rfl (fun b hb => by
        have := H5.nat (i := 2) (j := 0) rfl rfl (by decide) hb
        simpa [Res.at] using this)
      refine H5.alloc ?_; clear H5; intro b w6 H6
      refine H6.appEB encX_ok (i := 1) (j := 3) rfl [(cc, ra, bs.length, rc)] rfl sl_Ty_S_api_Section rfl (by simp; omega) (by simp; omega) ?_; intro x_a x_c w7 H7
      refine ⟨L ++ [⟨cc, bs⟩], _, by simp, rfl, MadeS.snoc hL ⟨by rw [hbl]; exact he, hb, by simp only; omega⟩, p5, hp5, (H7.sub (fun i => i) ?_ (fun _ _ _ _ h => h)).imp fun w h => ⟨DatR.snoc (s := ⟨cc, bs⟩) (a := ra) (c := rc) h.2.1 h.1 hcap, h.2.2⟩⟩
      rintro (_ | _ | _) r h <;> first | exact h | cases h
    have nxt : ∀ {w7 : World} {x_a : Option Addr} {x_l x_c : Nat}, (∃ (L2 : List Sec) (xs2 : List XSec), L2.length = L.length + 1 ∧ x_l = xs2.length ∧ (∀ s ∈ L2, secE s.ch s.data.length = 0 ∧ Bytes s.data ∧ s.data.length ≤ 20) ∧ ∃ p5, p5 ≤ ts.length ∧ St A [g] w w7 [rdice g a c ts p5, .els encX Ty_api_Section 2 x_a x_c xs2] (fun w => DatR w xs2 L2 ∧ P w)) →
        ∃ (k2 : Nat) (L : List Sec) (xs : List XSec) (p2 : Nat), (k : Int) - 1 = k2 ∧ L.length + k2 = m ∧ x_l = xs.length ∧ (∀ s ∈ L, secE s.ch s.data.length = 0 ∧ Bytes s.data ∧ s.data.length ≤ 20) ∧ p2 ≤ ts.length ∧ St A [g] w w7 [rdice g a c ts p2, .els encX Ty_api_Section 2 x_a x_c xs] (fun w => DatR w xs L ∧ P w) := by
      rintro w7 x_a x_l x_c ⟨L2, xs2, h1, h2, h3, p5, h4, h5⟩
      exact ⟨k - 1, L2, xs2, p5, by omega, by omega, h2, h3, h4, h5⟩
    refine kLet_in ?_
    refine bsplit_dec (fun c1 => ?_) (fun c1 => ?_) --  (decide (r1 < (8 : Int)))
    · refine rNext H3 (i := 0) rfl hts2 hp3 (by omega) fun r2 p4 w4 _ hr2 hp4 H4 => ?_
      have hr2 := hr2 (by omega)
      obtain ⟨n, rfl⟩ := natOf hr2.1
      refine kW_i64 (by omega) ?_ -- (1 : Int) + r2
      refine (go (cc := ch) (n := n + 1) (by omega) (by omega) (by unfold secE chOk; rw [if_neg (by omega), if_neg (by omega)]) hp4 H4).mono ?_
      rintro _ w5 ⟨ra, rl, rc, rfl, hk2⟩
      refine ⟨_, _, _, rfl, ?_⟩
      obtain ⟨x_a, x_l, x_c, w7, hrun, h7⟩ := hk2
      refine ⟨x_a, x_l, x_c, w7, hrun, ?_⟩
      refine kW_i64 (by omega) ?_ -- i - (1 : Int)
      exact ⟨nxt h7, by dsimp only; omega⟩ --! I x_a x_l x_c (i - (1 : Int))
    · refine kLet_in ?_
      refine bsplit_dec (fun c => ?_) (fun c => ?_) --  (decide (r1 = (8 : Int)))
      · refine (go (cc := 8) (n := 1) rfl (by omega) (by decide) hp3 H3).mono ?_
        rintro _ w5 ⟨ra, rl, rc, rfl, hk2⟩
        refine ⟨_, _, _, rfl, ?_⟩
        obtain ⟨x_a, x_l, x_c, w7, hrun, h7⟩ := hk2
        refine ⟨x_a, x_l, x_c, w7, hrun, ?_⟩
        refine kW_i64 (by omega) ?_ -- i - (1 : Int)
        exact ⟨nxt h7, by dsimp only; omega⟩ --! I x_a1 x_l1 x_c1 (i - (1 : Int))
      · refine (go (cc := ch) (n := 2) rfl (by omega) (by
          rcases (show ch = 9 ∨ ch = 10 by omega) with rfl | rfl <;> decide) hp3 H3).mono ?_
        rintro _ w5 ⟨ra, rl, rc, rfl, hk2⟩
        refine ⟨_, _, _, rfl, ?_⟩
        obtain ⟨x_a, x_l, x_c, w7, hrun, h7⟩ := hk2
        refine ⟨x_a, x_l, x_c, w7, hrun, ?_⟩
        refine kW_i64 (by omega) ?_ -- i - (1 : Int)
        exact ⟨nxt h7, by dsimp only; omega⟩ --! I x_a2 x_l2 x_c2 (i - (1 : Int))
  · obtain rfl : k = 0 := by omega
    exact ⟨l_a, l_c, L, xs, p2, by rw [hxl], ⟨by omega, hL⟩, hp2, H2⟩ --! (.slice l_a l_l l_c)
end
end Go.Proofs.Ytjmjdjpbgjjhmaa
