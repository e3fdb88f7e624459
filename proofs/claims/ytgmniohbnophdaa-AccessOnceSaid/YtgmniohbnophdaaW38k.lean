import Derived.Test.YtgmniohbnophdaaW38j
import Derived.Test.YtgmniohbnophdaaOp
/- CHAPTER 38: awake. -/
set_option maxRecDepth 100000
namespace Go.Proofs.Ytgmniohbnophdaa
open Go.Sx Go.RowKit Go.P38
theorem aw1 : beginR ⟨64, 3, 5, []⟩ 3 0 = (⟨64, 3, 5, [⟨3, 3, 0, 0⟩]⟩, 0) := by decide +kernel
theorem aw2 : beginR ⟨64, 3, 5, [⟨3, 3, 0, 0⟩]⟩ 67 0 = (⟨64, 3, 5, [⟨3, 3, 0, 0⟩, ⟨67, 3, 0, 0⟩]⟩, 0) := by decide +kernel
theorem aw3 : (tickR ⟨64, 3, 5, [⟨3, 3, 0, 0⟩, ⟨67, 3, 0, 0⟩]⟩ 0).2 = ([], [], 0) ∧ (tickR ⟨64, 3, 5, [⟨3, 3, 0, 0⟩, ⟨67, 3, 0, 0⟩]⟩ 0).1.l.length = 2 := by decide +kernel
theorem aw4 : preR 3 1 64 = 34 ∧ preR 67 1 64 = 35 := by decide +kernel
section
variable {w : World}
theorem law38_awake_ct : Calls Try.prog N_law38_awake #[] w fun e w' => e = .returned (.bool true) ∧ Below w.heap.size w w' := by
  apply F_law38_awake_ok
  unfold F_law38_awake
  have H := St.nil w
  refine H.alloc ?_; clear H; intro b w1 H1
  refine H1.store (i := 0) rfl (by rfl) (by rfl) ?_; clear H1; intro w2 H2
  replace H2 : FreshR w w2 [acBlk b ⟨64, 3, 5, []⟩ none 0] := H2
  refine ⟨_, _, _, _, _, _, H2.cells (i := 0) rfl, ?_⟩
  obtain ⟨A1, hA1, k1⟩ := St.callH H2
  refine (access_Begin_ct (a := ⟨64, 3, 5, []⟩) (id := 3) (tick := 0) (hA1.mono fun _ _ => .inl rfl) (Nat.le_refl _) (by decide)).mono ?_
  rintro _ w3 ⟨p3, c3, rfl, hc3, K3⟩; have H3 := k1 K3; clear H2 k1 K3 hA1
  rw [aw1] at hc3 H3 ⊢
  refine ⟨_, _, _, _, _, _, _, rfl, ?_⟩
  refine H3.store (i := 0) rfl (by rfl) (by rfl) ?_; clear H3; intro w4 H4
  refine ⟨_, _, _, _, _, _, H4.cells (i := 0) rfl, ?_⟩
  obtain ⟨A2, hA2, k2⟩ := St.callH H4
  refine (access_Begin_ct (a := ⟨64, 3, 5, [⟨3, 3, 0, 0⟩]⟩) (id := 67) (tick := 0) (hA2.mono fun _ h => h.1) hc3 (by show 1 ≤ 800000; decide)).mono ?_
  rintro _ w5 ⟨p5, c5, rfl, hc5, K5⟩; have H5 := k2 K5; clear H4 k2 K5 hA2
  rw [aw2] at hc5 H5 ⊢
  refine ⟨_, _, _, _, _, _, _, rfl, ?_⟩
  refine H5.store (i := 0) rfl (by rfl) (by rfl) ?_; clear H5; intro w6 H6
  refine ⟨_, _, _, _, _, _, H6.cells (i := 0) rfl, ?_⟩
  obtain ⟨A3, hA3, k3⟩ := St.callH H6
  refine (access_Tick_ct (a := ⟨64, 3, 5, [⟨3, 3, 0, 0⟩, ⟨67, 3, 0, 0⟩]⟩) (tick := 0) (hA3.mono fun _ h => h.1) hc5 (by show 2 ≤ 800000; decide)).mono ?_
  rintro _ w7 ⟨p7, c7, g7, gc7, d7, dc7, rfl, hc7, K7⟩; have H7 := k3 K7; clear H6 k3 K7 hA3
  obtain ⟨t1, t2⟩ := aw3
  have t3 := congrArg (fun x => x.1) t1; have t4 := congrArg (fun x => x.2.1) t1; have t5 := congrArg (fun x => x.2.2) t1
  dsimp only at t3 t4 t5
  refine ⟨_, _, _, _, _, _, _, _, _, _, _, _, _, rfl, ?_⟩
  refine H7.alloc ?_; clear H7; intro b1 w8 H8
  refine H8.store (i := 1) rfl (by rfl) (by rfl) ?_; clear H8; intro w9 H9
  refine bsplit_dec (fun _ => ?_) (fun c => absurd rfl c)
  refine bsplit_dec (fun _ => ?_) (fun c => absurd rfl c)
  refine bsplit_dec (fun _ => ?_) (fun c => absurd t5 c)
  refine bsplit_dec (fun _ => ?_) (fun c => absurd (by rw [t3]; rfl) c)
  refine bsplit_dec (fun _ => ?_) (fun c => absurd (by rw [t4]; rfl) c)
  refine H9.ldS (i := 1) rfl rfl ?_
  refine bsplit_dec (fun _ => ?_) (fun c => absurd (by rw [t2]; rfl) c)
  refine access_Preamble_ct.mono ?_
  rintro _ w10 ⟨rfl, hb10⟩; have H10 := H9.pass hb10; clear H9
  refine ⟨_, rfl, ?_⟩
  refine bsplit_dec (fun _ => ?_) (fun c => absurd aw4.1 c)
  refine access_Preamble_ct.mono ?_
  rintro _ w11 ⟨rfl, hb11⟩; have H11 := H10.pass hb11; clear H10
  refine ⟨_, rfl, ?_⟩
  refine kLet_in ?_
  exact ⟨by rw [decide_eq_true aw4.2], H11.below⟩
end
/-! ## An argument that is an access -/
def shAt : Shape := .cons 1 (.int .i64) (.cons 1 (.int .i64) (.cons 1 (.int .i64) (.cons 1 (.int .i64) .nil)))
def shAc : Shape := .cons 1 (.int .i64) (.cons 1 (.int .i64) (.cons 1 (.int .i64) (.cons 1 (.sl 4 shAt) .nil)))
theorem at_of {W : World} {cs : List Value} (h : shAt.R W cs) : ∃ x : At, cs = encAt x := by
  obtain ⟨⟨n0, e0, _⟩, ⟨n1, e1, _⟩, ⟨n2, e2, _⟩, ⟨n3, e3, _⟩, e4⟩ := h
  have h0 := tk1 e0; have h1 := tk1 e1; have h2 := tk1 e2; have h3 := tk1 e3
  rw [e4] at h3; rw [h3] at h2; rw [h2] at h1; rw [h1] at h0
  exact ⟨⟨n0, n1, n2, n3⟩, h0⟩
theorem ats_of {W : World} {a : Option Addr} {l : Nat} (h : 0 < l → ∃ b, a = some b ∧ ∀ i, i < l → ∃ es, cellsAt W (b.add (i * 4)) 0 es ∧ es.length = 4 ∧ shAt.R W es) :
    ∃ L : List At, L.length = l ∧ SlR (CE encAt) 4 W a L := by
  rcases Nat.eq_zero_or_pos l with rfl | hl
  · exact ⟨[], rfl, .inl rfl⟩
  · obtain ⟨b, rfl, hb⟩ := h hl
    obtain ⟨L, hL, hq⟩ := choose_list (Q := fun i (s : At) => cellsAt W (b.add (i * 4)) 0 (encAt s)) l fun i hi => by
      obtain ⟨es, hes, _, hR⟩ := hb i hi
      obtain ⟨r, rfl⟩ := at_of hR
      exact ⟨r, hes⟩
    exact ⟨L, hL, .inr ⟨b, rfl, fun i hi => hq i hi⟩⟩
theorem ac_of {W : World} {cs : Array Value} (h : shAc.R W cs.toList) : ∃ (a : Ac) (p : Option Addr) (c : Nat), .agg cs = aggAc a p c ∧ SlR (CE encAt) 4 W p a.l ∧ a.l.length ≤ c := by
  obtain ⟨⟨n0, e0, _⟩, ⟨n1, e1, _⟩, ⟨n2, e2, _⟩, ⟨a, l, c, e3, hl, _, hs⟩, e4⟩ := h
  obtain ⟨L, rfl, hL⟩ := ats_of hs
  have h0 := tk1 e0; have h1 := tk1 e1; have h2 := tk1 e2; have h3 := tk1 e3
  rw [e4] at h3; rw [h3] at h2; rw [h2] at h1; rw [h1] at h0
  refine ⟨⟨n0, n1, n2, L⟩, a, c, ?_, hL, hl⟩
  have : cs = #[.int .i64 n0, .int .i64 n1, .int .i64 n2, .slice a L.length c] := Array.toList_inj.1 h0
  rw [this]
end Go.Proofs.Ytgmniohbnophdaa
