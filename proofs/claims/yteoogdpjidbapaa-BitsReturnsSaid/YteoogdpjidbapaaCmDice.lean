import Derived.Test.YteoogdpjidbapaaCmMod
namespace Go.Proofs.Yteoogdpjidbapaa
open Go.Sx Go.RowKit

/-- a Dice at block g: it rolls the numbers ts -/
structure DiceR (w : World) (g : Nat) (a : Option Addr) (c : Nat) (ts : List Int) : Prop where
  blk : ∃ p : Nat, p ≤ ts.length ∧ Blk w g Ty_radiolinkmade_Dice #[.slice a ts.length c, .int .i64 p]
  row : SlR (IntC .i64) 1 w a ts
  far : ∀ b, a = some b → ts ≠ [] → b.block ≠ g
/-- only block g has turned -/
structure Turned (g : Nat) (w w' : World) : Prop where
  heap : ∀ k, k ≠ g → w'.heap[k]? = w.heap[k]?
  size : w'.heap.size = w.heap.size
  below : ∀ B, B ≤ g → Below B w w'
theorem Turned.cell {g : Nat} {w w' : World} (h : Turned g w w') {p : Addr} (hp : p.block ≠ g) : w'.cell? p = w.cell? p := World.cell?_of_block (h.heap _ hp)

theorem _root_.Go.Sx.SlR.turned {g : Nat} {w w' : World} {a : Option Addr} {k : IntKind} {xs : List Int} (h : SlR (IntC k) 1 w a xs) (ht : Turned g w w') (hfar : ∀ b, a = some b → xs ≠ [] → b.block ≠ g) : SlR (IntC k) 1 w' a xs := by
  rcases h with rfl | ⟨b, rfl, hc⟩
  · exact .inl rfl
  · refine .inr ⟨b, rfl, fun i hi => ?_⟩
    have := hfar b rfl (by intro h; subst h; simp at hi)
    exact (ht.cell (by rw [add_block]; exact this)).trans (hc i hi)

theorem light_ok (a : Option Addr) (n c : Nat) (w : World) : Calls Try.prog N_made_Light #[.slice a n c] w fun e w' => e = .returned (.bool (decide ((n : Int) ≤ 400))) ∧ w' = w := by
  apply F_made_Light_ok
  unfold F_made_Light
  exact ⟨rfl, rfl⟩
theorem roll_ok {a : Option Addr} {c : Nat} {ts : List Int} {w : World} (ha : SlR (IntC .i64) 1 w a ts) :
    Calls Try.prog N_made_Roll #[.slice a ts.length c] w fun e w' => e = .returned (.pointer (some (nb w))) ∧ DiceR w' w.heap.size a c ts ∧ w'.heap.size = w.heap.size + 1 ∧ Below w.heap.size w w' := by
  apply F_made_Roll_ok
  unfold F_made_Roll
  intro w1
  have hB : Blk w1 w.heap.size Ty_radiolinkmade_Dice #[.slice a ts.length c, .int .i64 (0 : Nat)] := Blk.new w _ _
  have h1 : Below w.heap.size w w1 := (Below.refl _ _).alloc (Nat.le_refl _) _
  refine ⟨rfl, ⟨⟨0, by omega, hB⟩, ha.below h1, fun b hb hne => ?_⟩, by simp [w1], h1⟩
  obtain ⟨b', hb', hc⟩ := ha.get (i := 0) (List.length_pos_iff.2 hne)
  rw [hb] at hb'
  injection hb' with hb'
  subst hb'
  have := cell_lt hc
  rw [add_block] at this
  omega
theorem next_ok {g : Nat} {a : Option Addr} {c : Nat} {ts : List Int} {w : World} (h : DiceR w g a c ts) (n : Int) (hn : n ≤ 9223372036854775807) (hl : ts.length ≤ 4611686018427387904) :
    Calls Try.prog N_made_Dice_Next #[.pointer (some ⟨g, 0, none⟩), .int .i64 n] w fun e w' => ∃ r : Int, e = .returned (.int .i64 r) ∧ (1 ≤ n → 0 ≤ r ∧ r < n) ∧ DiceR w' g a c ts ∧ Turned g w w' := by
  obtain ⟨⟨p, hp, hB⟩, hrow, hfar⟩ := h
  apply F_made_Dice_Next_ok
  unfold F_made_Dice_Next
  intro w1
  have e1 : w1 = w.drew := rfl
  clear_value w1
  have hB1 : Blk w1 g Ty_radiolinkmade_Dice #[.slice a ts.length c, .int .i64 p] := by subst e1; exact hB
  have hrow1 : SlR (IntC .i64) 1 w1 a ts := by subst e1; exact hrow
  have ht1 : Turned g w w1 := by subst e1; exact ⟨fun _ _ => rfl, rfl, fun B _ => (Below.refl _ _).drew⟩
  clear e1
  refine ⟨p, by rw [add_mk]; exact hB1.cell0 1 rfl, a, ts.length, c, hB1.cell0 0 rfl, ?_⟩
  refine bsplit_dec (fun hge => ⟨0, rfl, fun _ => by omega, ⟨⟨p, hp, hB1⟩, hrow1, hfar⟩, ht1⟩) (fun hlt => ?_)
  refine ⟨p, by rw [add_mk]; exact hB1.cell0 1 rfl, by rw [add_mk]; exact hB1.has (by simp), by rw [add_mk]; exact hB1.frozen _, ?_⟩
  intro w2
  have e2 : w2 = w1.setCell ⟨g, 1, none⟩ (.int .i64 ((p + 1 : Nat) : Int)) := by simp only [w2]; rw [add_mk, wrap_id _ (by omega)]; simp
  clear_value w2
  intro w3
  have e3 : w3 = w2.drew := rfl
  clear_value w3
  have hB3 : Blk w3 g Ty_radiolinkmade_Dice #[.slice a ts.length c, .int .i64 (p + 1 : Nat)] := by
    subst e3 e2
    exact hB1.set 1 (.int .i64 ((p + 1 : Nat) : Int))
  have ht3 : Turned g w w3 := by
    subst e3 e2
    exact ⟨fun k hk => (Below.heap_setCell w1 _ _ k hk).trans (ht1.heap k hk), by simp [World.drew, ht1.size], fun B hB => ((ht1.below B hB).setCell hB _).drew⟩
  have hlt' : p < ts.length := by omega
  obtain ⟨b, rfl, hc⟩ := hrow.get hlt'
  have hne : ts ≠ [] := by intro h; subst h; simp at hlt'
  have hrow3 : SlR (IntC .i64) 1 w3 (some b) ts := hrow.turned ht3 hfar
  obtain ⟨b', hb', hc3⟩ := hrow3.get hlt'
  injection hb' with hb'
  subst hb'
  unfold IntC at hc3
  refine ⟨fun _ => True, trivial, some b, ts.length, c, hB3.cell0 0 rfl, trivial, ((p + 1 : Nat) : Int), by rw [add_mk]; exact hB3.cell0 1 rfl, b, rfl, ?_⟩
  rw [wrap_id (((p + 1 : Nat) : Int) - 1) (by omega), show (((p + 1 : Nat) : Int) - 1) = (p : Int) by omega, Int.toNat_natCast]
  refine ⟨⟨by omega, by omega⟩, trivial, _, hc3, ?_⟩
  refine (mod_ok _ _ hn w3).mono ?_
  rintro _ w4 ⟨rfl, rfl⟩
  exact ⟨_, rfl, fun p _ _ hc => hc, _, rfl, modI_range _ _, ⟨⟨p + 1, by omega, hB3⟩, hrow3, hfar⟩, ht3⟩
end Go.Proofs.Yteoogdpjidbapaa
