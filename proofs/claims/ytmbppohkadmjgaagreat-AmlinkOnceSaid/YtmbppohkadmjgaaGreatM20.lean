import Derived.Test.YtmbppohkadmjgaaGreatM21a
import Derived.Test.YtmbppohkadmjgaaGreatM18
import Derived.Test.YtmbppohkadmjgaaGreatEl2
import Derived.Test.YtmbppohkadmjgaaGreatOp
namespace Go.Sx
open Go.RowKit
end Go.Sx
namespace Go.Proofs.YtmbppohkadmjgaaGreat
open Go.Sx Go.RowKit
set_option maxRecDepth 100000

def encU (u : Un) (a : Option Addr) (c : Nat) (a2 : Option Addr) (c2 : Nat) : List Value := [.int .i64 u.sn, .slice a u.data.length c, .int .i64 u.sent, .int .i64 u.tries, .slice a2 u.again.length c2]
def UnC (w : World) (p : Addr) (u : Un) : Prop := ∃ a c a2 c2, cellsAt w p 0 (encU u a c a2 c2) /\ SlR (IntC .u8) 1 w a u.data /\ SlR (CE encR) 3 w a2 u.again
abbrev UnR (w : World) (a : Option Addr) (L : List Un) : Prop := SlR UnC 5 w a L
def encSd (s : Sd) (a : Option Addr) (c : Nat) : List Value :=
 [.int .i64 s.lk.bits, .int .i64 s.lk.every, .int .i64 s.lk.poll, .int .i64 s.lk.wait, .int .i64 s.lk.quiet, .int .i64 s.lk.tries, .int .i64 s.first, .int .i64 s.next, .slice a s.units.length c, .int .i64 s.pieces, .int .i64 s.poll, .int .i64 s.left, .bool s.failed]
abbrev SdC (w : World) (b o : Nat) (s : Sd) : Prop := ∃ a c, cellsAt w ⟨b, o, none⟩ 0 (encSd s a c) /\ UnR w a s.units
theorem UnC.keep {w w' : World} {p : Addr} {u : Un} (h : UnC w p u) (hb : Below w.heap.size w w') : UnC w' p u := by
 obtain ⟨a, c, a2, c2, h1, h2, h3⟩ := h
 exact ⟨a, c, a2, c2, cellsAt_keep (fun _ _ hp _ => hb.get hp) h1, h2.below hb, h3.belowE hb⟩
theorem unR_below {w w' : World} {a : Option Addr} {L : List Un} (h : UnR w a L) (hb : Below w.heap.size w w') : UnR w' a L := by
 rcases h with rfl | ⟨b, rfl, h⟩
 ·exact .inl rfl
 ·exact .inr ⟨b, rfl, fun i hi => (h i hi).keep hb⟩
theorem sdC_below {w w' : World} {b o : Nat} {s : Sd} (h : SdC w b o s) (hb : Below w.heap.size w w') : SdC w' b o s := by
 obtain ⟨a, c, h1, h2⟩ := h
 exact ⟨a, c, cells_below h1 hb, unR_below h2 hb⟩
abbrev aggU (u : Un) (a : Option Addr) (c : Nat) (a2 : Option Addr) (c2 : Nat) : Value := .agg #[.int .i64 u.sn, .slice a u.data.length c, .int .i64 u.sent, .int .i64 u.tries, .slice a2 u.again.length c2]
abbrev aggS (s : Sd) (a : Option Addr) (c : Nat) : Value := .agg #[.int .i64 s.lk.bits, .int .i64 s.lk.every, .int .i64 s.lk.poll, .int .i64 s.lk.wait, .int .i64 s.lk.quiet, .int .i64 s.lk.tries, .int .i64 s.first, .int .i64 s.next, .slice a s.units.length c, .int .i64 s.pieces, .int .i64 s.poll, .int .i64 s.left, .bool s.failed]

section
variable {l : Lk} {w : World}
end

section
variable {s : Sd} {b o : Nat} {n : Int} {w : World}
theorem sender_side_place_ct (hs : SdC w b o s) (hb : bitsOk s.lk.bits) :
 Calls Tryz.prog N_sender_side_place #[(.pointer (some ⟨b, o, none⟩)), (.int .i64 n)] w fun e w' => e = .returned (.int .i64 (s.place n)) /\ Below w.heap.size w w' := by
 apply F_sender_side_place_ok
 unfold F_sender_side_place
 have H := St.nil w
 obtain ⟨a, c, hc, _⟩ := hs
 refine H.drew ?_; clear H; intro w1 H1
 have hc1 := cells_below hc H1.below
 refine ⟨(· < w1.heap.size), ?_⟩
 refine ⟨_, lq (j := 0) hc1 rfl, ?_⟩
 refine ⟨_, lq (j := 6) hc1 rfl, ?_⟩
 refine serial_Distance_ct.mono ?_
 rintro _ w2 ⟨rfl, hb2⟩; have H2 := H1.pass hb2
 refine ⟨_, rfl, ?_⟩
 refine ⟨hb2.keeps, ?_⟩
 obtain ⟨hb1, hb3⟩ := hb
 exact ⟨by rw [if_pos (by omega)]; rfl, H2.below⟩
theorem sender_side_number_ct (hs : SdC w b o s) (hb : bitsOk s.lk.bits) :
 Calls Tryz.prog N_sender_side_number #[(.pointer (some ⟨b, o, none⟩)), (.int .i64 n)] w fun e w' => e = .returned (.bool (decide (snOk s.lk.bits n))) /\ Below w.heap.size w w' := by
 apply F_sender_side_number_ok
 unfold F_sender_side_number
 have H := St.nil w
 obtain ⟨a, c, hc, _⟩ := hs
 have hp := pow_bits hb
 obtain ⟨hb1, hb3⟩ := hb
 refine ⟨_, lq (j := 0) hc rfl, ?_⟩
 refine ⟨by omega, ?_⟩
 refine kShl1 (by omega) ?_
 refine kW_i64 (by omega) ?_
 refine sender_between_ct.mono ?_
 rintro _ w1 ⟨rfl, hb1⟩; have H1 := H.pass hb1; clear H
 refine ⟨_, rfl, ?_⟩
 exact ⟨retD (by unfold snOk; omega), H1.below⟩
end
theorem sender_whole_ct {u : Un} {a a2 : Option Addr} {c c2 : Nat} {w : World} :
 Calls Tryz.prog N_sender_whole #[aggU u a c a2 c2] w fun e w' => e = .returned (.bool (decide (wholeU u))) /\ Below w.heap.size w w' := by
 apply F_sender_whole_ok
 unfold F_sender_whole
 have H := St.nil w
 refine H.alloc ?_; clear H; intro b w1 H1
 refine H1.ld (i := 0) rfl rfl ?_
 refine H1.ldS (i := 0) rfl rfl ?_
 refine kLet_in ?_
 exact ⟨rfl, H1.below⟩
end Go.Proofs.YtmbppohkadmjgaaGreat
namespace Go.Proofs.YtmbppohkadmjgaaGreat
open Go.Sx Go.RowKit
set_option maxRecDepth 100000

section
variable {L : List Rg} {a : Option Addr} {c g : Nat} {ff fc : Array Value} {w : World}
end

section
variable {L : List Un} {a : Option Addr} {c g : Nat} {ff fc : Array Value} {w : World}
theorem ixU (hs : UnR w a L) (i : Nat) {j : Int} (hj : j = i) (hi : i < L.length) {F : Addr -> Prop}
 (h : ∀ b, UnC w (b.add (j.toNat * 5)) L[i] -> F b) : kIx a L.length j F :=
 ixE hs i hj hi fun b x hx hb => by
  rw [List.getElem?_eq_getElem hi] at hx; injection hx with hx; subst hx; exact h b hb
theorem indexFuncU_ct (hs : UnR w a L) (hl : L.length <= 140737488355328) (p : Un -> Bool) (hok : okFn Tryz.prog g = true)
 (hf : ∀ (w' : World) (u : Un) (a1 : Option Addr) (c1 : Nat) (a2 : Option Addr) (c2 : Nat), u ∈ L -> Below w.heap.size w w' -> Calls Tryz.prog g (ff ++ #[aggU u a1 c1 a2 c2] ++ fc) w' fun e w'' => e = .returned (.bool (p u)) /\ Below w'.heap.size w' w'') :
 Calls Tryz.prog N_slices_IndexFunc_Sapi_Unit_api_Unit #[(.slice a L.length c), .func (.func g) ff fc] w fun e w' => e = .returned (.int .i64 (idx p L)) /\ Below w.heap.size w w' := by
 apply F_slices_IndexFunc_Sapi_Unit_api_Unit_ok
 unfold F_slices_IndexFunc_Sapi_Unit_api_Unit
 have H := St.nil w
 refine ⟨fun x => ((L.length - x).toNat, fun w1 => ∃ k : Nat, x = k /\ k <= L.length /\ (∀ j (hj : j < L.length), j < k -> p L[j] = false) /\ FreshR w w1 []), ⟨0, rfl, by omega, fun j _ h => by omega, H⟩, ?_⟩
 clear H
 rintro _ x w1 ⟨k, rfl, hk, hno, H1⟩
 refine bsplit_dec (fun c1 => ?_) (fun c1 => ?_)
 ·have hlt : k < L.length := by omega
  refine ixU (unR_below hs H1.below) k rfl hlt fun b hb => ?_
  obtain ⟨a1, c1, a2, c2, hb, _, _⟩ := hb
  refine ⟨_, _, _, _, _, _, _, _, _, hb, ?_⟩
  refine ⟨hok, ?_⟩
  refine (hf w1 _ a1 c1 a2 c2 (List.getElem_mem hlt) H1.below).mono ?_
  rintro _ w2 ⟨rfl, hb2⟩; have H2 := H1.pass hb2; clear H1
  refine ⟨_, rfl, ?_⟩
  refine bsplit_intro (fun c => ?_) (fun c => ?_)
  ·exact ⟨by rw [idx_at hlt hno c], H2.below⟩
  ·refine kW_i64 (by omega) ?_
   exact ⟨⟨k + 1, by omega, by omega, fun j hj h => by
    rcases Nat.lt_or_ge j k with h' | h'
    ·exact hno j hj h'
    ·obtain rfl : j = k := by omega
     exact c, H2⟩, by dsimp only; omega⟩
 ·obtain rfl : k = L.length := by omega
  exact ⟨by rw [idx_no fun j hj => hno j hj hj], H1.below⟩
theorem containsFuncU_ct (hs : UnR w a L) (hl : L.length <= 140737488355328) (p : Un -> Bool) (hok : okFn Tryz.prog g = true)
 (hf : ∀ (w' : World) (u : Un) (a1 : Option Addr) (c1 : Nat) (a2 : Option Addr) (c2 : Nat), u ∈ L -> Below w.heap.size w w' -> Calls Tryz.prog g (ff ++ #[aggU u a1 c1 a2 c2] ++ fc) w' fun e w'' => e = .returned (.bool (p u)) /\ Below w'.heap.size w' w'') :
 Calls Tryz.prog N_slices_ContainsFunc_Sapi_Unit_api_Unit #[(.slice a L.length c), .func (.func g) ff fc] w fun e w' => e = .returned (.bool (L.any p)) /\ Below w.heap.size w w' := by
 apply F_slices_ContainsFunc_Sapi_Unit_api_Unit_ok
 unfold F_slices_ContainsFunc_Sapi_Unit_api_Unit
 refine (indexFuncU_ct hs hl p hok hf).mono ?_
 rintro _ w1 ⟨rfl, hb1⟩
 refine ⟨_, rfl, ?_⟩
 refine kLet_in ?_
 exact ⟨by rw [idx_any], hb1⟩
end

theorem sender_side_unit_1_ct {r : Rg} {u : Un} {a a2 : Option Addr} {c c2 b : Nat} {w : World} (hc : cellsAt w ⟨b, 0, none⟩ 0 (encU u a c a2 c2)) :
 Calls Tryz.prog N_sender_side_unit_1 #[(.agg #[.int .i64 r.sn, .int .i64 r.f, .int .i64 r.t]), (.pointer (some ⟨b, 0, none⟩))] w fun e w' => e = .returned (.bool (offR u r)) /\ Below w.heap.size w w' := by
 apply F_sender_side_unit_1_ok
 unfold F_sender_side_unit_1
 have H := St.nil w
 refine H.alloc ?_; clear H; intro b0 w1 H1
 have hc1 := cells_below hc H1.below
 refine H1.ld (i := 0) rfl rfl ?_
 refine ⟨_, lq (j := 0) hc1 rfl, ?_⟩
 refine bsplit_nd (fun c => ?_) (fun c => ?_)
 ·exact ⟨retT (.inl c), H1.below⟩
 ·refine H1.ld (i := 0) rfl rfl ?_
  refine ⟨_, lq (j := 2) hc1 rfl, ?_⟩
  refine kLet_in ?_
  exact ⟨retD ⟨fun h => .inr h, fun h => by omega⟩, H1.below⟩

section
variable {s : Sd} {b o : Nat} {u : Un} {a1 a2 : Option Addr} {c1 c2 : Nat} {w : World}
theorem sender_side_unit_ct (hs : SdC w b o s) (hb : bitsOk s.lk.bits) (hu : SlR (CE encR) 3 w a2 u.again) (hl : u.again.length <= 140737488355328) :
 Calls Tryz.prog N_sender_side_unit #[(.pointer (some ⟨b, o, none⟩)), aggU u a1 c1 a2 c2] w fun e w' => e = .returned (.bool (unB s.lk u)) /\ Below w.heap.size w w' := by
 apply F_sender_side_unit_ok
 unfold F_sender_side_unit
 have H := St.nil w
 refine H.alloc ?_; clear H; intro b0 w1 H1
 replace H1 : St (fun _ => False) [] w w1 [.blk b0 Ty_api_Unit (encU u a1 c1 a2 c2)] (fun _ => True) := H1
 refine ⟨fun x4 w8 => St (fun _ => False) [] w w8 [.blk b0 Ty_api_Unit (encU u a1 c1 a2 c2)] (fun _ => True) /\ (!x4) = (decide (unNum s.lk u) && normB (-1) u.again), ?_, ?_⟩
 ·rintro _ x4 w8 ⟨H8, hj⟩
  refine bsplit_intro (fun c4 => ?_) (fun c4 => ?_)
  ·refine ⟨?_, H8.below⟩
   subst c4
   rw [unB, <- hj]; rfl
  ·refine H8.ldS (i := 0) rfl rfl ?_
   refine (containsFuncR_ct (hu.belowE H8.below) hl (offR u) (by kernel_rfl) fun w' r hr hw' => ?_).mono ?_
   ·exact sender_side_unit_1_ct (cells_below (H8.cells (i := 0) rfl) hw')
   rintro _ w9 ⟨rfl, hb9⟩; have H9 := H8.pass hb9; clear H8
   refine ⟨_, rfl, ?_⟩
   refine ⟨?_, H9.below⟩
   subst c4
   rw [unB, <- hj]; rfl
 ·refine H1.drew ?_; clear H1; intro w2 H2
  have hs2 := sdC_below hs H2.below
  obtain ⟨sa, sc, hc, _⟩ := hs2
  have hlt := cells_lt hc
  refine ⟨(· < w2.heap.size), ?_⟩
  refine H2.ld (i := 0) rfl rfl ?_
  refine (sender_side_number_ct (sdC_below hs H2.below) hb).mono ?_
  rintro _ w3 ⟨rfl, hb3⟩; have H3 := H2.pass hb3
  refine ⟨_, rfl, ?_⟩
  refine ⟨hb3.keeps, ?_⟩
  have bad : ∀ {w' : World}, ¬ unNum s.lk u -> St (fun _ => False) [] w w' [.blk b0 Ty_api_Unit (encU u a1 c1 a2 c2)] (fun _ => True) -> St (fun _ => False) [] w w' [.blk b0 Ty_api_Unit (encU u a1 c1 a2 c2)] (fun _ => True) /\ (!true) = (decide (unNum s.lk u) && normB (-1) u.again) :=
   fun h H => ⟨H, by rw [decide_eq_false h]; rfl⟩
  refine bsplit_nd (fun c3 => ?_) (fun c3 => ?_)
  ·exact bad (fun h => c3 h.1) H3
  ·refine ⟨H2.lt (i := 0) rfl rfl, ?_⟩
   refine H2.ldS (i := 0) rfl rfl ?_
   refine sender_between_ct.mono ?_
   rintro _ w4 ⟨rfl, hb4⟩; have H4 := H3.pass hb4
   refine ⟨_, rfl, ?_⟩
   replace hb4 := below_step hb3 (Nat.le_refl _) hb4
   refine ⟨hb4.keeps, ?_⟩
   refine bsplit_nd (fun c2 => ?_) (fun c2 => ?_)
   ·exact bad (fun h => c2 (by have := h.2.1; omega)) H4
   ·refine ⟨H2.lt (i := 0) rfl rfl, ?_⟩
    refine H2.ld (i := 0) rfl rfl ?_
    refine ⟨H2.lt (i := 0) rfl rfl, ?_⟩
    refine H2.ldS (i := 0) rfl rfl ?_
    refine sender_between_ct.mono ?_
    rintro _ w5 ⟨rfl, hb5⟩; have H5 := H4.pass hb5
    refine ⟨_, rfl, ?_⟩
    replace hb5 := below_step hb4 (Nat.le_refl _) hb5
    refine ⟨hb5.keeps, ?_⟩
    refine bsplit_nd (fun c1 => ?_) (fun c1 => ?_)
    ·exact bad (fun h => c1 (by have := h.2.2.1; omega)) H5
    ·refine ⟨H2.lt (i := 0) rfl rfl, ?_⟩
     refine H2.ld (i := 0) rfl rfl ?_
     refine ⟨hlt, ?_⟩
     refine ⟨_, lq (j := 5) hc rfl, ?_⟩
     refine sender_between_ct.mono ?_
     rintro _ w6 ⟨rfl, hb6⟩; have H6 := H5.pass hb6
     refine ⟨_, rfl, ?_⟩
     replace hb6 := below_step hb5 (Nat.le_refl _) hb6
     refine ⟨hb6.keeps, ?_⟩
     refine bsplit_nd (fun c => ?_) (fun c => ?_)
     ·exact bad (fun h => c h.2.2.2) H6
     ·refine ⟨H2.lt (i := 0) rfl rfl, ?_⟩
      refine H2.ldS (i := 0) rfl rfl ?_
      refine (segment_Normal_ct (hu.belowE H6.below) hl).mono ?_
      rintro _ w7 ⟨rfl, hb7⟩; have H7 := H6.pass hb7
      refine ⟨_, rfl, ?_⟩
      replace hb7 := below_step hb6 (Nat.le_refl _) hb7
      refine ⟨hb7.keeps, ?_⟩
      exact ⟨H7, by rw [decide_eq_true (show unNum s.lk u from ⟨c3, by omega, by omega, c⟩)]; simp⟩
theorem sender_side_asked_1_ct {q : Nat} (hq : w.cell? ⟨q, 0, none⟩ = some (.pointer (some ⟨b, o, none⟩))) (hs : SdC w b o s) :
 Calls Tryz.prog N_sender_side_asked_1 #[aggU u a1 c1 a2 c2, (.pointer (some ⟨q, 0, none⟩))] w fun e w' => e = .returned (.bool (decide (u.sn = s.poll /\ 0 < u.sent))) /\ Below w.heap.size w w' := by
 apply F_sender_side_asked_1_ok
 unfold F_sender_side_asked_1
 have H := St.nil w
 refine H.alloc ?_; clear H; intro b0 w1 H1
 refine H1.drew ?_; clear H1; intro w2 H2
 obtain ⟨sa, sc, hc, _⟩ := sdC_below hs H2.below
 refine H2.ld (i := 0) rfl rfl ?_
 refine ⟨_, H2.below.get hq, ?_⟩
 refine ⟨_, by rw [add_mk]; exact lq (j := 10) hc rfl, ?_⟩
 refine bsplit_dec (fun c => ?_) (fun c => ?_)
 ·refine H2.ld (i := 0) rfl rfl ?_
  refine kLet_in ?_
  exact ⟨retD ⟨fun h => ⟨c, h⟩, fun h => h.2⟩, H2.below⟩
 ·exact ⟨retF (fun h => c h.1), H2.below⟩
theorem sender_side_asked_ct (hs : SdC w b o s) (hl : s.units.length <= 140737488355328) :
 Calls Tryz.prog N_sender_side_asked #[(.pointer (some ⟨b, o, none⟩))] w fun e w' => e = .returned (.bool (askedB s)) /\ Below w.heap.size w w' := by
 apply F_sender_side_asked_ok
 unfold F_sender_side_asked
 have H := St.nil w
 refine H.alloc ?_; clear H; intro b0 w1 H1
 have hs1 := sdC_below hs H1.below
 have hs2 := hs1
 obtain ⟨sa, sc, hc, hu⟩ := hs2
 refine ⟨_, H1.cell (i := 0) rfl rfl, ?_⟩
 refine ⟨_, _, _, by rw [add_mk]; exact lq (j := 8) hc rfl, ?_⟩
 refine (containsFuncU_ct hu hl (fun u => decide (u.sn = s.poll /\ 0 < u.sent)) (by kernel_rfl) fun w' u a1 c1 a2 c2 hu' hw' => ?_).mono ?_
 ·exact sender_side_asked_1_ct (b := b) (o := o) (hw'.get (H1.cell (i := 0) rfl rfl)) (sdC_below hs1 hw')
 rintro _ w2 ⟨rfl, hb2⟩; have H2 := H1.pass hb2; clear H1
 refine ⟨_, rfl, ?_⟩
 exact ⟨rfl, H2.below⟩
end
end Go.Proofs.YtmbppohkadmjgaaGreat
namespace Go.Proofs.YtmbppohkadmjgaaGreat
open Go.Sx Go.RowKit
set_option maxRecDepth 100000

def SmU (L : List Un) : Prop := L.length <= 140737488355328 /\ ∀ u ∈ L, u.again.length <= 140737488355328 /\ u.data.length <= 140737488355328
section
variable {s : Sd} {b o : Nat} {w : World}
theorem sender_side_units_ct (hs : SdC w b o s) (hb : bitsOk s.lk.bits) (hl : SmU s.units) :
 Calls Tryz.prog N_sender_side_units #[(.pointer (some ⟨b, o, none⟩))] w fun e w' => e = .returned (.bool (unitsB s)) /\ Below w.heap.size w w' := by
 apply F_sender_side_units_ok
 unfold F_sender_side_units
 have H := St.nil w
 obtain ⟨hl0, hl1⟩ := hl
 have hs0 := hs
 obtain ⟨a, c, hc, hu⟩ := hs0
 refine ⟨_, _, _, lq (j := 8) hc rfl, ?_⟩
 refine bsplit_dec (fun c8 => ?_) (fun c8 => ?_)
 ·have hnil : s.units = [] := List.eq_nil_of_length_eq_zero (by omega)
  refine H.drew ?_; clear H; intro w1 H1
  have hc1 := cells_below hc H1.below
  refine ⟨_, lq (j := 7) hc1 rfl, ?_⟩
  refine ⟨_, lq (j := 6) hc1 rfl, ?_⟩
  refine kLet_in ?_
  refine ⟨?_, H1.below⟩
  unfold unitsB; rw [hnil]
 ·have hpos : 0 < s.units.length := by omega
  have e0 : unitsB s = (decide (s.units[0].sn = s.first) && unitsFrom s none s.units) := by
   unfold unitsB
   split
   ·rename_i h; rw [h] at hpos; simp at hpos
   ·rename_i u l h
    simp [h]
  refine H.drew ?_; clear H; intro w2 H2
  have hc2 := cells_below hc H2.below
  refine ⟨_, _, _, lq (j := 8) hc2 rfl, ?_⟩
  refine ixU (unR_below hu H2.below) 0 rfl hpos fun b1 hb1 => ?_
  obtain ⟨a1, c1, a2, c2, hb1, _, _⟩ := hb1
  refine ⟨_, by have := cellsAt_get hb1 0 _ rfl; rwa [add_add] at this, ?_⟩
  refine ⟨_, lq (j := 6) hc2 rfl, ?_⟩
  refine bsplit_nd (fun c7 => ?_) (fun c7 => ?_)
  ·refine ⟨?_, H2.below⟩
   rw [e0, decide_eq_false c7]; rfl
  ·refine ⟨_, _, _, lq (j := 8) hc2 rfl, ?_⟩
   refine ⟨fun x5 => ((s.units.length - x5).toNat, fun w3 => ∃ k : Nat, x5 = k /\ k <= s.units.length /\ unitsB s = unitsFrom s (prevU s.units k) (s.units.drop k) /\ FreshR w w3 []), ⟨0, rfl, by omega, by rw [e0, decide_eq_true c7]; rfl, H2⟩, ?_⟩
   clear H2 hc2 hb1
   rintro _ x5 w3 ⟨k, rfl, hk, hI, H3⟩
   refine bsplit_dec (fun c6 => ?_) (fun c6 => ?_)
   ·have hlt : k < s.units.length := by omega
    have hmem := List.getElem_mem hlt
    obtain ⟨u, hue⟩ : ∃ u, u = s.units[k] := ⟨_, rfl⟩
    rw [<- hue] at hmem
    rw [unitsFrom_drop _ _ _ hlt, <- hue] at hI
    refine ixU (unR_below hu H3.below) k rfl hlt fun b1 hb1 => ?_
    rw [<- hue] at hb1
    obtain ⟨a1, c1, a2, c2, hb1, hd1, hr1⟩ := hb1
    refine ⟨_, _, _, _, _, _, _, _, _, hb1, ?_⟩
    have hr1 := fun {w' : World} (h : Below w3.heap.size w3 w') => hr1.belowE h
    have L := St.nil w3
    refine L.alloc ?_; clear L; intro b2 w4 H4
    simp only [List.nil_append] at H4
    refine H4.store (i := 0) rfl (by rfl) (by rfl) ?_; clear H4; intro w5 H5
    replace H5 : St (fun _ => False) [] w3 w5 [.blk b2 Ty_api_Unit (encU u a1 c1 a2 c2)] (fun _ => True) := H5
    refine ⟨fun w10 => St (fun _ => False) [] w3 w10 [.blk b2 Ty_api_Unit (encU u a1 c1 a2 c2)] (fun _ => True) /\ (unB s.lk u && decide (s.place u.sn < s.place s.next)) = true, ?_, ?_⟩
    ·rintro _  w10 ⟨H10, hj⟩
     rw [hj, Bool.true_and] at hI
     have G10 := H3.pass H10.below
     refine bsplit_dec (fun c5 => ?_) (fun c5 => ?_)
     ·have hc10 := cells_below hc G10.below
      have hu10 := unR_below hu G10.below
      refine ⟨_, _, _, lq (j := 8) hc10 rfl, ?_⟩
      refine kW_i64 (by omega) ?_
      have hlt1 : k - 1 < s.units.length := by omega
      obtain ⟨v, hve⟩ : ∃ v, v = s.units[k - 1] := ⟨_, rfl⟩
      have hp : prevU s.units k = some v := by
       rw [show k = (k - 1) + 1 by omega, prevU, List.getElem?_eq_getElem hlt1, hve]
      rw [hp] at hI
      simp only at hI
      refine ixU hu10 (k - 1) (by omega) hlt1 fun b3 hb3 => ?_
      rw [<- hve] at hb3
      obtain ⟨a3, c3, a4, c4, hb3, _, _⟩ := hb3
      refine ⟨_, _, _, _, _, _, _, _, _, hb3, ?_⟩
      refine H10.alloc ?_; clear H10; intro b4 w11 H11
      simp only [List.cons_append, List.nil_append] at H11
      refine H11.store (i := 1) rfl (by rfl) (by rfl) ?_; clear H11; intro w12 H12
      simp only [List.set_cons_succ, List.set_cons_zero] at H12
      replace H12 : St (fun _ => False) [] w3 w12 [.blk b2 Ty_api_Unit (encU u a1 c1 a2 c2), .blk b4 Ty_api_Unit (encU v a3 c3 a4 c4)] (fun _ => True) := H12
      refine H12.drew ?_; clear H12; intro w13 H13
      have G13 := H3.pass H13.below
      refine ⟨(· < w13.heap.size), ?_⟩
      refine H13.ld (i := 0) rfl rfl ?_
      refine ⟨H13.lt (i := 1) rfl rfl, ?_⟩
      refine H13.ld (i := 1) rfl rfl ?_
      refine (sender_side_place_ct (sdC_below hs G13.below) hb).mono ?_
      rintro _ w14 ⟨rfl, hb14⟩; have G14 := G13.pass hb14
      refine ⟨_, rfl, ?_⟩
      refine ⟨hb14.keeps, ?_⟩
      refine (sender_side_place_ct (sdC_below hs G14.below) hb).mono ?_
      rintro _ w15 ⟨rfl, hb15⟩; have G15 := G14.pass hb15
      refine ⟨_, rfl, ?_⟩
      replace hb15 := below_step hb14 (Nat.le_refl _) hb15
      refine ⟨hb15.keeps, ?_⟩
      refine bsplit_dec (fun c4' => ?_) (fun c4' => ?_)
      ·refine ⟨?_, G15.below⟩
       rw [hI, behindB, decide_eq_false (by omega)]; rfl
      ·refine ⟨H13.lt (i := 1) rfl rfl, ?_⟩
       refine ⟨_, _, _, _, _, _, _, _, _, H13.cells (i := 1) rfl, ?_⟩
       refine sender_whole_ct.mono ?_
       rintro _ w16 ⟨rfl, hb16⟩; have G16 := G15.pass hb16
       refine ⟨_, rfl, ?_⟩
       replace hb16 := below_step hb15 (Nat.le_refl _) hb16
       refine ⟨hb16.keeps, ?_⟩
       have hI2 : unitsB s = ((decide (wholeU v) || decide (u.sent <= 0)) && unitsFrom s (prevU s.units (k + 1)) (s.units.drop (k + 1))) := by
        rw [hI, behindB, decide_eq_true (show s.place v.sn < s.place u.sn by omega), Bool.true_and]
       refine bsplit_nd (fun c3' => ?_) (fun c3' => ?_)
       ·refine ⟨H13.lt (i := 0) rfl rfl, ?_⟩
        refine H13.ld (i := 0) rfl rfl ?_
        refine bsplit_dec (fun c2' => ?_) (fun c2' => ?_)
        ·refine ⟨?_, G16.below⟩
         rw [hI2, decide_eq_false c3', decide_eq_false (by omega)]; rfl
        ·refine kW_i64 (by omega) ?_
         refine ⟨⟨k + 1, by omega, by omega, ?_, G16⟩, by dsimp only; omega⟩
         rw [hI2, decide_eq_true (show u.sent <= 0 by omega)]; simp
       ·refine kW_i64 (by omega) ?_
        refine ⟨⟨k + 1, by omega, by omega, ?_, G16⟩, by dsimp only; omega⟩
        rw [hI2, decide_eq_true c3']; simp
     ·refine kW_i64 (by omega) ?_
      obtain rfl : k = 0 := by omega
      refine ⟨⟨1, by omega, by omega, ?_, G10⟩, by dsimp only; omega⟩
      rw [hI]; rfl
    ·refine H5.drew ?_; clear H5; intro w6 H6
     have G6 := H3.pass H6.below
     refine ⟨(· < w6.heap.size), ?_⟩
     refine ⟨_, _, _, _, _, _, _, _, _, H6.cells (i := 0) rfl, ?_⟩
     refine (sender_side_unit_ct (sdC_below hs G6.below) hb (hr1 H6.below) (hl1 u hmem).1).mono ?_
     rintro _ w7 ⟨rfl, hb7⟩; have H7 := H6.pass hb7
     have G7 := G6.pass hb7
     refine ⟨_, rfl, ?_⟩
     refine ⟨hb7.keeps, ?_⟩
     refine bsplit_n (fun c1' => ?_) (fun c1' => ?_)
     ·refine ⟨?_, G7.below⟩
      rw [hI, c1']; rfl
     ·have hc6 := cells_below hc G6.below
      refine ⟨H6.lt (i := 0) rfl rfl, ?_⟩
      refine H6.ld (i := 0) rfl rfl ?_
      refine ⟨cells_lt hc6, ?_⟩
      refine ⟨_, lq (j := 7) hc6 rfl, ?_⟩
      refine (sender_side_place_ct (sdC_below hs G7.below) hb).mono ?_
      rintro _ w8 ⟨rfl, hb8⟩; have H8 := H7.pass hb8
      have G8 := G7.pass hb8
      refine ⟨_, rfl, ?_⟩
      replace hb8 := below_step hb7 (Nat.le_refl _) hb8
      refine ⟨hb8.keeps, ?_⟩
      refine (sender_side_place_ct (sdC_below hs G8.below) hb).mono ?_
      rintro _ w9 ⟨rfl, hb9⟩; have H9 := H8.pass hb9
      have G9 := G8.pass hb9
      refine ⟨_, rfl, ?_⟩
      replace hb9 := below_step hb8 (Nat.le_refl _) hb9
      refine ⟨hb9.keeps, ?_⟩
      refine bsplit_dec (fun c' => ?_) (fun c' => ?_)
      ·refine ⟨?_, G9.below⟩
       rw [hI, c1', decide_eq_false (by omega)]; rfl
      ·exact ⟨H9, by rw [c1', decide_eq_true (by omega)]; rfl⟩
   ·obtain rfl : k = s.units.length := by omega
    refine ⟨?_, H3.below⟩
    rw [hI, List.drop_length]; rfl
end

section
variable {s : Sd} {a : Option Addr} {c : Nat} {w : World}
theorem sender_Valid_ct (hu : UnR w a s.units) (hl : SmU s.units) :
 Calls Tryz.prog N_sender_Valid #[aggS s a c] w fun e w' => e = .returned (.bool s.okB) /\ Below w.heap.size w w' := by
 apply F_sender_Valid_ok
 unfold F_sender_Valid
 have H := St.nil w
 refine H.alloc ?_; clear H; intro b w1 H1
 simp only [List.nil_append] at H1
 refine ⟨_, _, _, _, _, _, _, _, _, _, _, _, _, _, _, H1.cells (i := 0) rfl, ?_⟩
 refine H1.alloc ?_; clear H1; intro b1 w2 H2
 simp only [List.cons_append, List.nil_append] at H2
 replace H2 : St (fun _ => False) [] w w2 [.blk b Ty_api_Sender (encSd s a c), .blk b1 Ty_sender_side (encSd s a c)] (fun _ => True) := H2
 have side : ∀ {w' : World}, St (fun _ => False) [] w w' [.blk b Ty_api_Sender (encSd s a c), .blk b1 Ty_sender_side (encSd s a c)] (fun _ => True) -> SdC w' b1 0 s := fun H => ⟨a, c, H.cells (i := 1) rfl, unR_below hu H.below⟩
 refine ⟨fun x9 w10 => St (fun _ => False) [] w w10 [.blk b Ty_api_Sender (encSd s a c), .blk b1 Ty_sender_side (encSd s a c)] (fun _ => True) /\
  (!x9) = (decide (lkOk s.lk /\ snOk s.lk.bits s.first /\ snOk s.lk.bits s.next /\ s.place s.next <= 2 ^ (s.lk.bits - 1).toNat) && unitsB s && decide (0 <= s.pieces /\ s.pieces <= s.lk.every - 1)), ?_, ?_⟩
 ·rintro _ x9 w10 ⟨H10, hj⟩
  refine bsplit_intro (fun c7 => ?_) (fun c7 => ?_)
  ·refine ⟨?_, H10.below⟩
   subst c7
   rw [Sd.okB, <- hj]; rfl
  ·subst c7
   have e : s.okB = if s.poll = -1 then decide (s.left = 0) else askedB s && decide (1 <= s.left /\ s.left <= s.lk.poll) := by rw [Sd.okB, <- hj]; rfl
   refine H10.ld (i := 0) rfl rfl ?_
   refine bsplit_dec (fun c6 => ?_) (fun c6 => ?_)
   ·refine H10.ld (i := 0) rfl rfl ?_
    refine kLet_in ?_
    exact ⟨by rw [e, if_pos c6], H10.below⟩
   ·refine (sender_side_asked_ct (side H10) hl.1).mono ?_
    rintro _ w11 ⟨rfl, hb11⟩; have H11 := H10.pass hb11; clear H10
    refine ⟨_, rfl, ?_⟩
    rw [if_neg c6] at e
    refine bsplit_intro (fun c5 => ?_) (fun c5 => ?_)
    ·refine H11.ld (i := 0) rfl rfl ?_
     refine H11.ld (i := 0) rfl rfl ?_
     refine sender_between_ct.mono ?_
     rintro _ w12 ⟨rfl, hb12⟩; have H12 := H11.pass hb12; clear H11
     refine ⟨_, rfl, ?_⟩
     exact ⟨by rw [e, c5]; rfl, H12.below⟩
    ·exact ⟨by rw [e, c5]; rfl, H11.below⟩
 ·have bad : ∀ {w' : World}, (decide (lkOk s.lk /\ snOk s.lk.bits s.first /\ snOk s.lk.bits s.next /\ s.place s.next <= 2 ^ (s.lk.bits - 1).toNat) && unitsB s) = false -> St (fun _ => False) [] w w' [.blk b Ty_api_Sender (encSd s a c), .blk b1 Ty_sender_side (encSd s a c)] (fun _ => True) -> St (fun _ => False) [] w w' [.blk b Ty_api_Sender (encSd s a c), .blk b1 Ty_sender_side (encSd s a c)] (fun _ => True) /\
   (!true) = (decide (lkOk s.lk /\ snOk s.lk.bits s.first /\ snOk s.lk.bits s.next /\ s.place s.next <= 2 ^ (s.lk.bits - 1).toNat) && unitsB s && decide (0 <= s.pieces /\ s.pieces <= s.lk.every - 1)) :=
   fun h H => ⟨H, by rw [h]; rfl⟩
  refine H2.drew ?_; clear H2; intro w3 H3
  refine ⟨(· < w3.heap.size), ?_⟩
  refine ⟨_, _, _, _, _, _, H3.cellsAt (i := 0) rfl (by rfl), ?_⟩
  refine sender_ValidLink_ct.mono ?_
  rintro _ w4 ⟨rfl, hb4⟩; have H4 := H3.pass hb4
  refine ⟨_, rfl, ?_⟩
  refine ⟨hb4.keeps, ?_⟩
  refine bsplit_nd (fun c4 => ?_) (fun c4 => ?_)
  ·exact bad (by rw [decide_eq_false fun h => c4 h.1]; rfl) H4
  ·have hb := c4.1
   have hp := pow_bits hb
   have hev := c4.2.1
   refine ⟨H3.lt (i := 0) rfl rfl, ?_⟩
   refine H3.ld (i := 0) rfl rfl ?_
   refine (sender_side_number_ct (side H4) hb).mono ?_
   rintro _ w5 ⟨rfl, hb5⟩; have H5 := H4.pass hb5
   refine ⟨_, rfl, ?_⟩
   replace hb5 := below_step hb4 (Nat.le_refl _) hb5
   refine ⟨hb5.keeps, ?_⟩
   refine bsplit_nd (fun c3 => ?_) (fun c3 => ?_)
   ·exact bad (by rw [decide_eq_false fun h => c3 h.2.1]; rfl) H5
   ·refine ⟨H3.lt (i := 0) rfl rfl, ?_⟩
    refine H3.ld (i := 0) rfl rfl ?_
    refine (sender_side_number_ct (side H5) hb).mono ?_
    rintro _ w6 ⟨rfl, hb6⟩; have H6 := H5.pass hb6
    refine ⟨_, rfl, ?_⟩
    replace hb6 := below_step hb5 (Nat.le_refl _) hb6
    refine ⟨hb6.keeps, ?_⟩
    refine bsplit_nd (fun c2 => ?_) (fun c2 => ?_)
    ·exact bad (by rw [decide_eq_false fun h => c2 h.2.2.1]; rfl) H6
    ·have hb' := hb
     obtain ⟨hb1, hb2⟩ := hb'
     refine ⟨H3.lt (i := 0) rfl rfl, ?_⟩
     refine H3.ld (i := 0) rfl rfl ?_
     refine ⟨H3.lt (i := 0) rfl rfl, ?_⟩
     refine H3.ld (i := 0) rfl rfl ?_
     refine kW_i64 (by omega) ?_
     refine ⟨by omega, ?_⟩
     refine kShl1 (by omega) ?_
     refine (sender_side_place_ct (side H6) hb).mono ?_
     rintro _ w7 ⟨rfl, hb7⟩; have H7 := H6.pass hb7
     refine ⟨_, rfl, ?_⟩
     replace hb7 := below_step hb6 (Nat.le_refl _) hb7
     refine ⟨hb7.keeps, ?_⟩
     refine bsplit_dec (fun c1 => ?_) (fun c1 => ?_)
     ·exact bad (by rw [decide_eq_false fun h => by have := h.2.2.2; omega]; rfl) H7
     ·have hd : decide (lkOk s.lk /\ snOk s.lk.bits s.first /\ snOk s.lk.bits s.next /\ s.place s.next <= 2 ^ (s.lk.bits - 1).toNat) = true := decide_eq_true ⟨c4, c3, c2, by omega⟩
      refine (sender_side_units_ct (side H7) hb hl).mono ?_
      rintro _ w8 ⟨rfl, hb8⟩; have H8 := H7.pass hb8
      refine ⟨_, rfl, ?_⟩
      replace hb8 := below_step hb7 (Nat.le_refl _) hb8
      refine ⟨hb8.keeps, ?_⟩
      refine bsplit_n (fun c => ?_) (fun c => ?_)
      ·exact bad (by rw [c]; simp) H8
      ·refine ⟨H3.lt (i := 0) rfl rfl, ?_⟩
       refine H3.ld (i := 0) rfl rfl ?_
       refine ⟨H3.lt (i := 0) rfl rfl, ?_⟩
       refine H3.ld (i := 0) rfl rfl ?_
       refine kW_i64 (by omega) ?_
       refine sender_between_ct.mono ?_
       rintro _ w9 ⟨rfl, hb9⟩; have H9 := H8.pass hb9
       refine ⟨_, rfl, ?_⟩
       replace hb9 := below_step hb8 (Nat.le_refl _) hb9
       refine ⟨hb9.keeps, ?_⟩
       exact ⟨H9, by rw [hd, c]; simp⟩
end
end Go.Proofs.YtmbppohkadmjgaaGreat
namespace Go.Sx
def badAtU (s : Sd) (k : Nat) (v u : Un) : Prop :=
 s.place u.sn >= s.place s.next \/ (k = 0 /\ s.place u.sn ≠ 0) \/ (0 < k /\ s.place u.sn <= s.place v.sn) \/ (0 < k /\ 0 < u.sent /\ v.sent < v.data.length)
instance (s : Sd) (k : Nat) (v u : Un) : Decidable (badAtU s k v u) := inferInstanceAs (Decidable (_ \/ _))
def unitsT (s : Sd) : Nat -> Bool
 | 0 => unitsB s
 | k + 1 => unitsFrom s (prevU s.units (k + 1)) (s.units.drop (k + 1))
end Go.Sx
namespace Go.Proofs.YtmbppohkadmjgaaGreat
open Go.Sx Go.RowKit
set_option maxRecDepth 100000

theorem ref20_Place_ct {s : Sd} {n : Int} {w : World} (hb : bitsOk s.lk.bits) :
 Calls Tryz.prog N_ref20_Place #[(.int .i64 s.lk.bits), (.int .i64 s.first), (.int .i64 n)] w fun e w' => e = .returned (.int .i64 (s.place n)) /\ Below w.heap.size w w' := by
 apply F_ref20_Place_ok
 unfold F_ref20_Place
 have H := St.nil w
 refine ref02_Distance_ct.mono ?_
 rintro _ w1 ⟨rfl, hb1⟩; have H1 := H.pass hb1; clear H
 refine ⟨_, rfl, ?_⟩
 obtain ⟨hb1, hb3⟩ := hb
 exact ⟨by rw [if_pos (by omega)]; rfl, H1.below⟩

section
variable {s : Sd} {u : Un} {a a1 a2 : Option Addr} {c c1 c2 : Nat} {w : World}
end

section
variable {s : Sd} {a : Option Addr} {c : Nat} {w : World}
end
end Go.Proofs.YtmbppohkadmjgaaGreat
namespace Go.Sx
open Go.RowKit
theorem unB_lens {l : Lk} {u : Un} (h : unB l u = true) : u.again.length <= 2055 /\ u.data.length <= 2054 := by
 unfold unB at h
 simp only [Bool.and_eq_true, decide_eq_true_eq, Bool.not_eq_true'] at h
 obtain ⟨⟨hn, h1⟩, h2⟩ := h
 obtain ⟨_, h3, h4, _⟩ := hn
 refine ⟨?_, by omega⟩
 rcases normB_len (m := 2054) h1 (fun r hr => by
  have := List.any_eq_false.1 h2 r hr
  simp only [offR, decide_eq_true_eq] at this
  omega) with h | h
 ·rw [h]; simp
 ·omega
theorem unitsFrom_all {s : Sd} : ∀ {l : List Un} {p : Option Un}, unitsFrom s p l = true -> ∀ u ∈ l, unB s.lk u = true /\ s.place u.sn < s.place s.next
 | [], _, _, u, hu => by simp at hu
 | x :: l, p, h, u, hu => by
  simp only [unitsFrom, Bool.and_eq_true, decide_eq_true_eq] at h
  rcases List.mem_cons.1 hu with rfl | hu
  ·exact h.1.1
  ·exact unitsFrom_all h.2 u hu
theorem unitsFrom_len {s : Sd} : ∀ {l : List Un} {u : Un} {p : Option Un}, unitsFrom s p (u :: l) = true -> s.place u.sn + l.length < s.place s.next
 | [], u, p, h => by
  have := (unitsFrom_all h u (by simp)).2
  simpa using this
 | v :: l, u, p, h => by
  have h' := h
  simp only [unitsFrom, Bool.and_eq_true, decide_eq_true_eq] at h'
  have h2 : unitsFrom s (some u) (v :: l) = true := by simp only [unitsFrom, Bool.and_eq_true, decide_eq_true_eq]; exact h'.2
  have := unitsFrom_len h2
  have h3 := h'.2.1.2
  simp only [behindB, Bool.and_eq_true, decide_eq_true_eq] at h3
  simp only [List.length_cons]
  omega
def FitU (L : List Un) : Prop := L.length <= 600 /\ ∀ u ∈ L, u.again.length <= 3000 /\ u.data.length <= 3000
theorem okB_fit {s : Sd} (h : s.okB = true) : FitU s.units /\ lkOk s.lk /\ snOk s.lk.bits s.first /\ snOk s.lk.bits s.next /\ ∀ u ∈ s.units, unB s.lk u = true /\ s.place u.sn < s.place s.next := by
 unfold Sd.okB at h
 simp only [Bool.and_eq_true, decide_eq_true_eq] at h
 obtain ⟨⟨⟨⟨h1, h2, h3, h4⟩, hu⟩, _⟩, _⟩ := h
 have hp := pow_bits h1.1
 have hall : ∀ u ∈ s.units, unB s.lk u = true /\ s.place u.sn < s.place s.next := by
  intro u hu'
  unfold unitsB at hu
  split at hu
  ·rename_i hn; rw [hn] at hu'; simp at hu'
  ·rename_i x l hx
   simp only [Bool.and_eq_true] at hu
   rw [hx] at hu'
   exact unitsFrom_all hu.2 u hu'
 refine ⟨⟨?_, fun u hu' => by have := unB_lens (hall u hu').1; omega⟩, h1, h2, h3, hall⟩
 have hlt : s.place s.next < 2 ^ s.lk.bits.toNat := (way_range _ _ _).2
 unfold unitsB at hu
 split at hu
 ·rename_i hn; rw [hn]; simp
 ·rename_i x l hx
  simp only [Bool.and_eq_true] at hu
  have := unitsFrom_len hu.2
  have h0 : 0 <= s.place x.sn := (way_range _ _ _).1
  rw [hx, List.length_cons]
  omega
def newS (l : Lk) : Sd × Int := if lkOk l then (⟨l, 0, 0, [], 0, -1, 0, false⟩, 0) else (.zero, 3)
end Go.Sx
namespace Go.Proofs.YtmbppohkadmjgaaGreat
open Go.Sx Go.RowKit
set_option maxRecDepth 100000

structure UP where
 u : Un
 a : Option Addr
 c : Nat
 a2 : Option Addr
 c2 : Nat
def encUP (x : UP) : List Value := encU x.u x.a x.c x.a2 x.c2
theorem encUP_ok : Enc encUP 5 := ⟨fun _ => rfl, fun _ => rfl⟩
def agR (x : UP) : Res := .els encR Ty_api_Range 3 x.a2 x.c2 x.u.again
def DatR (L : List UP) (w : World) : Prop := ∀ x ∈ L, SlR (IntC .u8) 1 w x.a x.u.data /\ x.u.data.length <= x.c
def Dat0 (L : List UP) (w : World) : Prop := ∀ x ∈ L, SlR (IntC .u8) 1 w x.a x.u.data
theorem DatR.out {L : List UP} {w : World} (h : DatR L w) : Dat0 L w := fun x hx => (h x hx).1
theorem ints_cap {w : World} {e : TypeId} {k : IntKind} {a : Option Addr} {c : Nat} {ys : List Int} (h : (Res.ints e k a c ys).ok w) : ys.length <= c := by
 have h : Own w 0 e 1 a ys.length c (ys.map (Value.int k)) := h
 rcases h.2 with ⟨hv, h0⟩ | ⟨g, cap, cur, hv, _, _, hnc, _⟩
 ·omega
 ·injection hv with _ _ h3; omega
def RngR (L : List UP) (w : World) : Prop := ∀ x ∈ L, SlR (CE encR) 3 w x.a2 x.u.again
theorem unR_up {w : World} {a : Option Addr} {L : List Un} (h : UnR w a L) : ∃ P : List UP, P.map (·.u) = L /\ SlR (CE encUP) 5 w a P /\ Dat0 P w /\ RngR P w := by
 rcases h with rfl | ⟨b, rfl, hb⟩
 ·exact ⟨[], rfl, .inl rfl, fun x hx => by simp at hx, fun x hx => by simp at hx⟩
 obtain ⟨P, hP, hq⟩ := choose_list (Q := fun i (x : UP) => ∃ h : i < L.length, x.u = L[i] /\ cellsAt w (b.add (i * 5)) 0 (encUP x) /\ SlR (IntC .u8) 1 w x.a x.u.data /\ SlR (CE encR) 3 w x.a2 x.u.again) L.length fun i hi => by
  obtain ⟨a, c, a2, c2, h1, h2, h3⟩ := hb i hi
  exact ⟨⟨L[i], a, c, a2, c2⟩, hi, rfl, h1, h2, h3⟩
 refine ⟨P, ?_, .inr ⟨b, rfl, fun i hi => ?_⟩, fun x hx => ?_, fun x hx => ?_⟩
 ·apply List.ext_getElem (by simpa using hP)
  intro i h1 h2
  obtain ⟨_, e, _⟩ := hq i (by simpa using h1)
  simpa using e
 ·obtain ⟨_, _, h, _⟩ := hq i hi; exact h
 ·obtain ⟨i, hi, rfl⟩ := List.getElem_of_mem hx
  obtain ⟨_, _, _, h, _⟩ := hq i hi; exact h
 ·obtain ⟨i, hi, rfl⟩ := List.getElem_of_mem hx
  obtain ⟨_, _, _, _, h⟩ := hq i hi; exact h
theorem up_unR {w : World} {a : Option Addr} {P : List UP} (h : SlR (CE encUP) 5 w a P) (hd : Dat0 P w) (hr : RngR P w) : UnR w a (P.map (·.u)) := by
 rcases h with rfl | ⟨b, rfl, hb⟩
 ·exact .inl rfl
 refine .inr ⟨b, rfl, fun i hi => ?_⟩
 have hi' : i < P.length := by simpa using hi
 have := List.getElem_mem hi'
 rw [List.getElem_map]
 exact ⟨P[i].a, P[i].c, P[i].a2, P[i].c2, hb i hi', hd _ this, hr _ this⟩
theorem shareAg {A0 : Nat -> Prop} {w0 w : World} : ∀ {L : List UP} {R : List Res} {P : World -> Prop}, St A0 [] w0 w (R ++ L.map agR) P -> St A0 [] w0 w R fun w => RngR L w /\ P w
 | [], R, P, H => by
  have := H.imp (Q := fun w => RngR [] w /\ P w) fun _ h => ⟨fun x hx => by simp at hx, h⟩
  simpa using this
 | x :: L, R, P, H => by
  have e : (R ++ (x :: L).map agR)[R.length]? = some (agR x) := by simp
  have K := (H.shareE encR_ok e).sub (R' := R ++ L.map agR) (fun i => if i < R.length then i else i + 1) (fun i r hi => by
   by_cases h : i < R.length
   ·rw [List.getElem?_append_left h] at hi
    rw [if_pos h, List.getElem?_set_ne (by omega), List.getElem?_append_left h]; exact hi
   ·rw [List.getElem?_append_right (by omega)] at hi
    rw [if_neg h, List.getElem?_set_ne (by omega), List.getElem?_append_right (by omega), show i + 1 - R.length = (i - R.length) + 1 by omega]
    simpa using hi) (fun i j _ _ h => by
   by_cases h1 : i < R.length <;> by_cases h2 : j < R.length <;> simp only [h1, h2, if_true, if_false] at h <;> omega)
  have K2 := shareAg K
  exact K2.imp fun _ h => ⟨fun y hy => by
   rcases List.mem_cons.1 hy with rfl | hy
   ·exact h.2.1
   ·exact h.1 y hy, h.2.2⟩
def RetO (w : World) (x : Sd) (E : Int) (e : Ending) (w' : World) : Prop :=
 ∃ a c L, L.map (·.u) = x.units /\ e = .returned (.tuple #[aggS x a c, .int .i64 E]) /\ St (fun _ => False) [] w w' (.els encUP Ty_api_Unit 5 a c L :: L.map agR) (DatR L)
theorem RetO.read {w w' : World} {x : Sd} {E : Int} {e : Ending} (h : RetO w x E e w') : ∃ a c, e = .returned (.tuple #[aggS x a c, .int .i64 E]) /\ UnR w' a x.units /\ Below w.heap.size w w' := by
 obtain ⟨a, c, L, hL, he, H⟩ := h
 have K := shareAg (R := [.els encUP Ty_api_Unit 5 a c L]) H
 refine ⟨a, c, he, ?_, H.below⟩
 rw [<- hL]
 exact up_unR (K.slE encUP_ok (i := 0) rfl) K.get.2.out K.get.1

section
variable {l : Lk} {w : World}
theorem sender_New_ct :
 Calls Tryz.prog N_sender_New #[(.agg #[.int .i64 l.bits, .int .i64 l.every, .int .i64 l.poll, .int .i64 l.wait, .int .i64 l.quiet, .int .i64 l.tries])] w (RetO w (newS l).1 (newS l).2) := by
 apply F_sender_New_ok
 unfold F_sender_New
 have H := St.nil w
 refine H.alloc ?_; clear H; intro b w1 H1
 refine H1.alloc ?_; clear H1; intro b1 w2 H2
 refine ⟨_, _, _, _, _, _, H2.cells (i := 0) rfl, ?_⟩
 refine sender_ValidLink_ct.mono ?_
 rintro _ w3 ⟨rfl, hb3⟩; have H3 := H2.pass hb3; clear H2
 refine ⟨_, rfl, ?_⟩
 refine bsplit_nd (fun c => ?_) (fun c => ?_)
 ·refine H3.store (i := 1) rfl (by rfl) (by rfl) ?_; clear H3; intro w4 H4
  refine ⟨_, _, _, _, _, _, _, _, _, _, _, _, _, _, _, H4.cells (i := 1) rfl, ?_⟩
  refine ⟨none, 0, [], ?_, ?_, (H4.fin.nilE encUP Ty_api_Unit 5).imp fun _ _ => fun x hx => by simp at hx⟩
  ·rw [newS, if_neg c]; rfl
  ·rw [newS, if_neg c]; rfl
 ·refine ⟨_, _, _, _, _, _, H3.cells (i := 0) rfl, ?_⟩
  refine H3.store (i := 1) rfl (by rfl) (by rfl) ?_; clear H3; intro w5 H5
  refine ⟨_, _, _, _, _, _, _, _, _, _, _, _, _, _, _, H5.cells (i := 1) rfl, ?_⟩
  refine ⟨none, 0, [], ?_, ?_, (H5.fin.nilE encUP Ty_api_Unit 5).imp fun _ _ => fun x hx => by simp at hx⟩
  ·rw [newS, if_pos c]; rfl
  ·rw [newS, if_pos c]; rfl
end
theorem clone_units {L : List UP} {s_a : Option Addr} {s_c : Nat} {w : World} (hs : SlR (CE encUP) 5 w s_a L) (hl : L.length <= 1000000) :
 Calls Tryz.prog N_slices_Clone_Sapi_Unit_api_Unit #[(.slice s_a L.length s_c)] w fun e w' => ∃ ra rc, e = .returned (.slice ra L.length rc) /\ FreshR w w' [.els encUP Ty_api_Unit 5 ra rc L] := by
 apply F_slices_Clone_Sapi_Unit_api_Unit_ok
 unfold F_slices_Clone_Sapi_Unit_api_Unit
 have H := St.nil w
 cases s_a with
 | none =>
  obtain rfl : L = [] := by
   rcases hs with h | ⟨b, hb, _⟩
   ·exact h
   ·cases hb
  exact ⟨none, 0, rfl, H.nilE encUP Ty_api_Unit 5⟩
 | some p =>
  refine bsplit_intro (fun h => by cases h) (fun _ => ?_)
  refine H.alloc ?_; clear H; intro b w1 H1
  have H1 := H1.litE encUP_ok (i := 0) [] rfl (by decide)
  refine H1.appE encUP_ok (i := 0) rfl sl_Ty_S_api_Unit (hs.belowE H1.below) (by simp; omega) (by simp; omega) ?_; intro x_a x_c w2 H2
  exact ⟨x_a, x_c, rfl, H2⟩
end Go.Proofs.YtmbppohkadmjgaaGreat
namespace Go.Sx
open Go.RowKit
end Go.Sx
namespace Go.Proofs.YtmbppohkadmjgaaGreat
open Go.Sx Go.RowKit
set_option maxRecDepth 100000

def SideO (w : World) (s : Sd) (e : Ending) (w' : World) : Prop :=
 ∃ b ua uc L, L.map (·.u) = s.units /\ e = .returned (.tuple #[.pointer (some ⟨b, 0, none⟩), .int .i64 0]) /\
  St (fun _ => False) [] w w' (.blk b Ty_sender_side (encSd s ua uc) :: .els encUP Ty_api_Unit 5 ua uc L :: L.map agR) (DatR L)
def begE (s : Sd) : Int := if s.okB = false then 1 else if s.failed = true then 16 else 0
def RetBeg (w : World) (s : Sd) (e : Ending) (w' : World) : Prop :=
 (begE s ≠ 0 /\ e = .returned (.tuple #[.pointer none, .int .i64 (begE s)]) /\ Below w.heap.size w w') \/ (begE s = 0 /\ SideO w s e w')

theorem sender_begin_ct {s : Sd} {a : Option Addr} {c : Nat} {w : World} (hu : UnR w a s.units) (hl : SmU s.units) :
 Calls Tryz.prog N_sender_begin #[aggS s a c] w (RetBeg w s) := by
 apply F_sender_begin_ok
 unfold F_sender_begin
 have H := St.nil w
 refine H.alloc ?_; clear H; intro b w1 H1
 simp only [List.nil_append] at H1
 refine ⟨_, _, _, _, _, _, _, _, _, _, _, _, _, _, _, H1.cells (i := 0) rfl, ?_⟩
 refine (sender_Valid_ct (unR_below hu H1.below) hl).mono ?_
 rintro _ w2 ⟨rfl, hb2⟩; have H2 := H1.pass hb2; clear H1
 replace H2 : St (fun _ => False) [] w w2 [.blk b Ty_api_Sender (encSd s a c)] (fun _ => True) := H2
 refine ⟨_, rfl, ?_⟩
 refine bsplit_n (fun c3 => ?_) (fun c3 => ?_)
 ·have hE : begE s = 1 := by rw [begE, if_pos c3]
  exact .inl ⟨by omega, by rw [hE], H2.below⟩
 refine H2.ldB (i := 0) rfl rfl ?_
 refine bsplit_intro (fun c4 => ?_) (fun c4 => ?_)
 ·have hE : begE s = 16 := by rw [begE, if_neg (by rw [c3]; decide), if_pos c4]
  exact .inl ⟨by omega, by rw [hE], H2.below⟩
 have hE : begE s = 0 := by rw [begE, if_neg (by rw [c3]; decide), if_neg (by rw [c4]; decide)]
 obtain ⟨⟨hf1, hf2⟩, -⟩ := okB_fit c3
 obtain ⟨L0, hL0, hs0, hd0, hr0⟩ := unR_up hu
 have hlen : L0.length = s.units.length := by rw [<- hL0, List.length_map]
 refine H2.ldS (i := 0) rfl rfl ?_
 rw [<- hlen]
 refine (clone_units (hs0.belowE H2.below) (by omega)).mono ?_
 rintro _ w3 ⟨ua, uc, rfl, K3⟩
 have H3 := H2.callR K3; clear H2
 simp only [List.cons_append, List.nil_append] at H3
 refine ⟨_, _, _, rfl, ?_⟩
 refine H3.set (i := 0) rfl (by show 8 < 13; decide) ?_; clear H3; intro w4 H4
 simp only [List.set_cons_zero] at H4
 replace H4 : St (fun _ => False) [] w w4 [.blk b Ty_api_Sender (encSd s ua uc), .els encUP Ty_api_Unit 5 ua uc L0] (fun _ => True) := by
  have e : (encSd s a c).set 8 (.slice ua L0.length uc) = encSd s ua uc := by rw [hlen]; rfl
  rw [e] at H4; exact H4
 refine H4.ldS (i := 0) rfl rfl ?_
 refine ⟨fun x1 => ((s.units.length - x1).toNat, fun w5 => ∃ (k : Nat) (L : List UP), x1 = k /\ k <= s.units.length /\ L.map (·.u) = s.units /\ L.drop k = L0.drop k /\
  St (fun _ => False) [] w w5 (.blk b Ty_api_Sender (encSd s ua uc) :: .els encUP Ty_api_Unit 5 ua uc L :: (L.take k).map agR) (DatR (L.take k))),
  ⟨0, L0, rfl, by omega, hL0, rfl, H4.imp fun _ _ => fun x hx => by simp at hx⟩, ?_⟩
 clear H4 K3
 rintro _ x1 w5 ⟨k, L, rfl, hk, hL, hdr, H5⟩
 have hlen5 : L.length = s.units.length := by rw [<- hL, List.length_map]
 refine bsplit_dec (fun c1 => ?_) (fun c1 => ?_)
 ·have hlt : k < L.length := by omega
  have hlt0 : k < L0.length := by omega
  have hx0 : L[k] = L0[k] := by
   have h1 := List.drop_eq_getElem_cons hlt
   have h2 := List.drop_eq_getElem_cons hlt0
   rw [h1, h2] at hdr
   injection hdr
  obtain ⟨x, hx⟩ : ∃ x, x = L[k] := ⟨_, rfl⟩
  have hmem : x ∈ L0 := by rw [hx, hx0]; exact List.getElem_mem _
  have hmu : x.u ∈ s.units := by rw [<- hL0]; exact List.mem_map.2 ⟨x, hmem, rfl⟩
  obtain ⟨hfr, hfd⟩ := hf2 _ hmu
  refine H5.ldS (i := 0) rfl rfl ?_
  obtain ⟨g, rfl, hg1, hg2⟩ := H5.rowSome (i := 1) rfl (by omega)
  refine kIx_at ⟨by omega, by omega⟩ ?_
  refine H5.drew ?_; clear H5; intro w6 H6
  simp only [elAd]
  refine ⟨fun p => p ∈ [(⟨g, k * 5 + 4, none⟩ : Addr)], ?_⟩
  have c61 := H6.cellEl encUP_ok (i := 1) rfl hlt (j := 1) (v := .slice x.a x.u.data.length x.c) (by decide) (by rw [<- hx]; rfl)
  have c64 := H6.cellEl encUP_ok (i := 1) rfl hlt (j := 4) (v := .slice x.a2 x.u.again.length x.c2) (by decide) (by rw [<- hx]; rfl)
  refine ⟨_, _, _, c61, ?_⟩
  refine ⟨by simp, ?_⟩
  refine ⟨_, _, _, c64, ?_⟩
  refine (clone_bytes ((hd0 x hmem).below H6.below) (by omega)).mono ?_
  rintro _ w7 ⟨ra, rc, rfl, K7⟩
  have H7 := (H6.callR K7).shareLast
  refine ⟨_, _, _, rfl, ?_⟩
  refine ⟨keeps1 c64 (H7.cellEl encUP_ok (i := 1) rfl hlt (j := 4) (by decide) (by rw [<- hx]; rfl)), ?_⟩
  refine (clone_ranges ((hr0 x hmem).belowE H7.below) (by omega)).mono ?_
  rintro _ w8 ⟨ra2, rc2, rfl, K8⟩
  have H8 := H7.callR K8
  simp only [List.cons_append] at H8
  refine ⟨_, _, _, rfl, ?_⟩
  refine ⟨keeps1 c64 (H8.cellEl encUP_ok (i := 1) rfl hlt (j := 4) (by decide) (by rw [<- hx]; rfl)), ?_⟩
  refine H8.setEl encUP_ok (i := 1) rfl hlt (j := 1) (by decide) ⟨x.u, ra, rc, x.a2, x.c2⟩ (by rw [<- hx]; rfl) ?_
  intro w9 f9 H9
  simp only [List.set_cons_succ, List.set_cons_zero] at H9
  have hlt9 : k < (L.set k ⟨x.u, ra, rc, x.a2, x.c2⟩).length := by simpa using hlt
  refine ⟨keeps1 c64 (H9.cellEl encUP_ok (i := 1) rfl hlt9 (j := 4) (by decide) (by simp; rfl)), ?_⟩
  refine H9.setEl encUP_ok (i := 1) rfl hlt9 (j := 4) (by decide) ⟨x.u, ra, rc, ra2, rc2⟩ (by simp; rfl) ?_
  intro w10 f10 H10
  simp only [List.set_cons_succ, List.set_cons_zero] at H10
  rw [List.set_set] at H10
  refine kW_i64 (by omega) ?_
  refine ⟨⟨k + 1, L.set k ⟨x.u, ra, rc, ra2, rc2⟩, by omega, by omega, ?_, ?_, ?_⟩, by omega⟩
  ·rw [<- hL]
   apply List.ext_getElem (by simp)
   intro i h1 h2
   simp only [List.getElem_map, List.getElem_set]
   split
   ·rename_i h; subst h; rw [hx]
   ·rfl
  ·rw [drop_set_end]
   have h1 := List.drop_eq_getElem_cons hlt
   have h2 := List.drop_eq_getElem_cons hlt0
   rw [h1, h2] at hdr
   injection hdr
  ·rw [take_set_end hlt, List.map_append]
   exact H10.imp fun _ h => fun y hy => by
    rcases List.mem_append.1 hy with hy | hy
    ·exact h.2 y hy
    ·simp at hy; subst hy; exact ⟨(ints_ok h.1).sl, ints_cap h.1⟩
 ·obtain rfl : k = s.units.length := by omega
  rw [List.take_of_length_le (by omega)] at H5
  refine ⟨_, _, _, _, _, _, _, _, _, _, _, _, _, _, _, H5.cells (i := 0) rfl, ?_⟩
  refine H5.alloc ?_; clear H5; intro b2 w11 H11
  refine .inr ⟨hE, b2, ua, uc, L, hL, rfl, ?_⟩
  refine H11.sub (fun i => if i = 0 then L.length + 2 else i) (fun i r hi => ?_) (fun i j hi hj h => ?_)
  ·rcases i with _ | i
   ·simp at hi
    subst hi
    simp [encSd]
   ·rw [if_neg (by omega)]
    rw [List.cons_append, List.getElem?_cons_succ]
    rw [List.getElem?_cons_succ] at hi
    rw [List.getElem?_append_left (List.getElem?_eq_some_iff.1 hi).1]
    exact hi
  ·simp at hi hj
   by_cases h1 : i = 0 <;> by_cases h2 : j = 0 <;> simp only [h1, h2, if_true, if_false] at h <;> omega
end Go.Proofs.YtmbppohkadmjgaaGreat
namespace Go.Sx
open Go.RowKit
section
variable {A0 : Nat -> Prop} {M : List Nat} {w0 w : World} {R : List Res} {P : World -> Prop} {i : Nat} {t e t0 : TypeId} {sz c bytes g : Nat} {a : Option Addr} {z : Value} {Pr : Program} {α : Type} {enc : α -> List Value} {ys : List α}
end
def subS (s : Sd) (d : List Int) (E0 : Int) : Sd × Int :=
 if E0 ≠ 0 then (.zero, E0) else if ¬ (1 <= d.length /\ d.length <= 2054) then (.zero, 2) else if s.place s.next = 2 ^ (s.lk.bits - 1).toNat then (.zero, 13)
 else ({ s with units := s.units ++ [⟨s.next, d, 0, 0, []⟩], next := (s.next + 1) % 2 ^ s.lk.bits.toNat }, 0)
end Go.Sx
namespace Go.Proofs.YtmbppohkadmjgaaGreat
open Go.Sx Go.RowKit
set_option maxRecDepth 100000

theorem retS {w w' : World} {R : List Res} {P : World -> Prop} {x : Sd} {a : Option Addr} {c b1 : Nat} {L : List UP} {E : Int} {cs : List Value} {i : Nat} (H : St (fun _ => False) [] w w' R P) (hi : R[i]? = some (.blk b1 Ty_api_Sender cs)) (hl : cs.length = 13)
 (hL : L.map (·.u) = x.units) (hK : ∀ w4, St (fun _ => False) [] w w4 (R.set i (.blk b1 Ty_api_Sender (encSd x a c))) P -> St (fun _ => False) [] w w4 (.els encUP Ty_api_Unit 5 a c L :: L.map agR) (DatR L)) :
 sxStore w' ⟨b1, 0, none⟩ 0 (encSd x a c) fun w4 =>
  ∃ r_0 r_1 r_2 r_3 r_4 r_5 r_6 r_7 : Int, ∃ r_8_a : Option Addr, ∃ r_8_l r_8_c : Nat, ∃ r_9 r_10 r_11 : Int, ∃ r_12 : Bool,
   cellsAt w4 ⟨b1, 0, none⟩ 0 [(.int .i64 r_0), (.int .i64 r_1), (.int .i64 r_2), (.int .i64 r_3), (.int .i64 r_4), (.int .i64 r_5), (.int .i64 r_6), (.int .i64 r_7), (.slice r_8_a r_8_l r_8_c), (.int .i64 r_9), (.int .i64 r_10), (.int .i64 r_11), (.bool r_12)] /\
   RetO w x E (.returned (.tuple #[(.agg #[.int .i64 r_0, .int .i64 r_1, .int .i64 r_2, .int .i64 r_3, .int .i64 r_4, .int .i64 r_5, .int .i64 r_6, .int .i64 r_7, .slice r_8_a r_8_l r_8_c, .int .i64 r_9, .int .i64 r_10, .int .i64 r_11, .bool r_12]), (.int .i64 E)])) w4 := by
 refine H.store hi (by rw [hl]; rfl) (by rfl) ?_
 intro w4 H4
 have hi4 : (R.set i (.blk b1 Ty_api_Sender (encSd x a c)))[i]? = some (.blk b1 Ty_api_Sender (encSd x a c)) := by
  have := (List.getElem?_eq_some_iff.1 hi).1
  simp [this]
 refine ⟨_, _, _, _, _, _, _, _, _, _, _, _, _, _, _, H4.cells hi4, ?_⟩
 exact ⟨a, c, L, hL, rfl, hK w4 H4⟩
theorem retZ {w w' : World} {R : List Res} {P : World -> Prop} {b1 : Nat} {E : Int} {cs : List Value} {i : Nat} (H : St (fun _ => False) [] w w' R P) (hi : R[i]? = some (.blk b1 Ty_api_Sender cs)) (hl : cs.length = 13) :
 sxStore w' ⟨b1, 0, none⟩ 0 (encSd .zero none 0) fun w4 =>
  ∃ r_0 r_1 r_2 r_3 r_4 r_5 r_6 r_7 : Int, ∃ r_8_a : Option Addr, ∃ r_8_l r_8_c : Nat, ∃ r_9 r_10 r_11 : Int, ∃ r_12 : Bool,
   cellsAt w4 ⟨b1, 0, none⟩ 0 [(.int .i64 r_0), (.int .i64 r_1), (.int .i64 r_2), (.int .i64 r_3), (.int .i64 r_4), (.int .i64 r_5), (.int .i64 r_6), (.int .i64 r_7), (.slice r_8_a r_8_l r_8_c), (.int .i64 r_9), (.int .i64 r_10), (.int .i64 r_11), (.bool r_12)] /\
   RetO w .zero E (.returned (.tuple #[(.agg #[.int .i64 r_0, .int .i64 r_1, .int .i64 r_2, .int .i64 r_3, .int .i64 r_4, .int .i64 r_5, .int .i64 r_6, .int .i64 r_7, .slice r_8_a r_8_l r_8_c, .int .i64 r_9, .int .i64 r_10, .int .i64 r_11, .bool r_12]), (.int .i64 E)])) w4 :=
 retS (L := []) H hi hl rfl fun w4 H4 => (H4.fin.nilE encUP Ty_api_Unit 5).imp fun _ _ => fun x hx => by simp at hx

theorem sender_Submit_ct {s : Sd} {a : Option Addr} {c : Nat} {da : Option Addr} {dc : Nat} {d : List Int} {w : World} (hu : UnR w a s.units) (hl : SmU s.units) (hd : SlR (IntC .u8) 1 w da d) :
 Calls Tryz.prog N_sender_Submit #[aggS s a c, .slice da d.length dc] w (RetO w (subS s d (begE s)).1 (subS s d (begE s)).2) := by
 apply F_sender_Submit_ok
 unfold F_sender_Submit
 have H := St.nil w
 refine H.alloc ?_; clear H; intro b0 w1 H1
 refine H1.alloc ?_; clear H1; intro b1 w2 H2
 simp only [List.cons_append, List.nil_append] at H2
 refine ⟨_, _, _, _, _, _, _, _, _, _, _, _, _, _, _, H2.cells (i := 0) rfl, ?_⟩
 refine (sender_begin_ct (unR_below hu H2.below) hl).mono ?_
 rintro _ w3 (⟨hE, rfl, hb3⟩ | ⟨hE, b, ua, uc, L, hL, rfl, K3⟩)
 ·have H3 := H2.pass hb3; clear H2
  refine ⟨_, _, rfl, ?_⟩
  refine kLet_in ?_
  refine bsplit_nd (fun _ => ?_) (fun h => absurd h hE)
  rw [subS, if_pos hE]
  exact retZ H3 (i := 1) rfl rfl
 have H3 := H2.callF K3; clear H2
 simp only [List.cons_append, List.nil_append] at H3
 refine ⟨_, _, rfl, ?_⟩
 refine kLet_in ?_
 refine bsplit_nd (fun h => absurd rfl h) (fun _ => ?_)
 obtain ⟨hok, hfa⟩ : s.okB = true /\ s.failed = false := by
  unfold begE at hE
  split at hE
  ·omega
  ·split at hE
   ·omega
   ·rename_i h1 h2
    exact ⟨by simpa using h1, by simpa using h2⟩
 obtain ⟨⟨hf1, hf2⟩, hlk, hsf, hsn, hall⟩ := okB_fit hok
 have hlen : L.length = s.units.length := by rw [<- hL, List.length_map]
 have hb := hlk.1
 have hp := pow_bits hb
 have hb' := hb
 obtain ⟨hb1, hb2⟩ := hb'
 refine sender_between_ct.mono ?_
 rintro _ w5 ⟨rfl, hb5⟩; have H5 := H3.pass hb5; clear H3
 refine ⟨_, rfl, ?_⟩
 refine bsplit_nd (fun c1 => ?_) (fun c1 => ?_)
 ·rw [subS, if_neg (by omega), if_pos (by omega)]
  exact retZ H5 (i := 1) rfl rfl
 refine H5.drew ?_; clear H5; intro w7 H7
 have hside : ∀ {w' : World}, St (fun _ => False) [] w w' (.blk b0 Ty_api_Sender (encSd s a c) :: .blk b1 Ty_api_Sender (encSd .zero none 0) :: .blk b Ty_sender_side (encSd s ua uc) :: .els encUP Ty_api_Unit 5 ua uc L :: L.map agR) (fun w => DatR L w /\ True) -> SdC w' b 0 s := fun H => by
  refine ⟨ua, uc, H.cells (i := 2) rfl, ?_⟩
  have K := shareAg (R := [.blk b0 Ty_api_Sender (encSd s a c), .blk b1 Ty_api_Sender (encSd .zero none 0), .blk b Ty_sender_side (encSd s ua uc), .els encUP Ty_api_Unit 5 ua uc L]) H
  rw [<- hL]
  exact up_unR (K.slE encUP_ok (i := 3) rfl) K.get.2.1.out K.get.1
 refine ⟨(· < w7.heap.size), ?_⟩
 have c7 := H7.cells (i := 2) rfl
 refine ⟨_, by rw [add_mk]; exact lq (j := 7) c7 rfl, ?_⟩
 refine ⟨H7.lt (i := 2) rfl rfl, ?_⟩
 refine ⟨_, lq (j := 0) c7 rfl, ?_⟩
 refine kW_i64 (by omega) ?_
 refine ⟨by omega, ?_⟩
 refine kShl1 (by omega) ?_
 refine (sender_side_place_ct (hside H7) hb).mono ?_
 rintro _ w8 ⟨rfl, hb8⟩; have H8 := H7.pass hb8
 refine ⟨_, rfl, ?_⟩
 refine ⟨hb8.keeps, ?_⟩
 refine kLet_in ?_
 refine bsplit_dec (fun c => ?_) (fun c => ?_)
 ·rw [subS, if_neg (by omega), if_neg (by omega), if_pos c]
  exact retZ H8 (i := 1) rfl rfl
 rw [subS, if_neg (by omega), if_neg (by omega), if_neg c]
 clear H7
 refine H8.drew ?_; clear H8; intro w10 H10
 refine ⟨(· = b), ?_⟩
 have c10 := H10.cells (i := 2) rfl
 refine ⟨rfl, ?_⟩
 refine ⟨_, _, _, by rw [add_mk]; exact lq (j := 8) c10 rfl, ?_⟩
 refine ⟨rfl, ?_⟩
 refine ⟨_, by rw [add_mk]; exact lq (j := 7) c10 rfl, ?_⟩
 refine (clone_bytes (hd.below H10.below) (by omega)).mono ?_
 rintro _ w11 ⟨ra, rc, rfl, K11⟩
 have H11 := (H10.callR K11).shareLast
 refine ⟨_, _, _, rfl, ?_⟩
 refine ⟨keepsBlk H10 H11 (i := 2) (j := 2) rfl rfl, ?_⟩
 refine ⟨keepsBlk H10 H11 (i := 2) (j := 2) rfl rfl, ?_⟩
 refine H11.alloc ?_; intro b2 w12 H12
 refine ⟨keepsBlk H10 H12 (i := 2) (j := 2) rfl rfl, ?_⟩
 rw [<- hlen]
 refine H12.appEL [UP.mk (Un.mk s.next d 0 0 []) ra rc none 0] encUP_ok (i := 3) rfl sl_Ty_S_api_Unit rfl (by simp; omega) (by simp; omega) ?_
 intro x_a1 x_c1 w13 H13
 obtain ⟨nw, hnw⟩ : ∃ nw : UP, nw = UP.mk (Un.mk s.next d 0 0 []) ra rc none 0 := ⟨_, rfl⟩
 rw [<- hnw] at H13 ⊢
 rw [show (L ++ [nw]).length = (s.units ++ [Un.mk s.next d 0 0 []]).length by simp [hlen]]
 simp only [List.set_cons_succ, List.set_cons_zero] at H13
 refine ⟨keepsBlk H10 H13 (i := 2) (j := 2) rfl rfl, ?_⟩
 refine kNil_in ?_
 rw [add_mk]
 refine H13.set (i := 2) rfl (by show 8 < 13; decide) ?_; clear H13 H12 H11 H10; intro w14 H14
 simp only [List.set_cons_succ, List.set_cons_zero] at H14
 refine H14.drew ?_; clear H14; intro w15 H15
 have c15 := H15.cells (i := 2) rfl
 refine ⟨(· = b), ?_⟩
 refine ⟨_, lq (j := 0) c15 rfl, ?_⟩
 refine ⟨_, by rw [add_mk]; exact lq (j := 7) c15 rfl, ?_⟩
 have hsn' := hsn
 unfold snOk at hsn'
 refine kW_i64 (by omega) ?_
 refine serial_Low_ct.mono ?_
 rintro _ w16 ⟨rfl, hb16⟩; have H16 := H15.pass hb16
 refine ⟨_, rfl, ?_⟩
 refine ⟨keepsBlk H15 H16 (i := 2) (j := 2) rfl rfl, ?_⟩
 rw [if_pos (by omega)]
 refine kNil_in ?_
 rw [add_mk]
 refine H16.set (i := 2) rfl (by show 7 < 13; decide) ?_; clear H16 H15; intro w17 H17
 simp only [List.set_cons_succ, List.set_cons_zero] at H17
 refine ⟨_, _, _, _, _, _, _, _, _, _, _, _, _, _, _, H17.cells (i := 2) rfl, ?_⟩
 refine retS (x := { s with units := s.units ++ [⟨s.next, d, 0, 0, []⟩], next := (s.next + 1) % 2 ^ s.lk.bits.toNat }) (a := x_a1) (c := x_c1) (L := L ++ [nw]) (i := 1) H17 rfl rfl (by rw [List.map_append, hL, hnw]; rfl) fun w4 H4 => ?_
 have H5 := H4.nilE encR Ty_api_Range 3
 have e : (Res.els encR Ty_api_Range 3 none 0 [] : Res) = agR nw := by rw [hnw]; rfl
 rw [e] at H5
 have H6 := H5.sub (R' := .els encUP Ty_api_Unit 5 x_a1 x_c1 (L ++ [nw]) :: (L ++ [nw]).map agR) (fun i => i + 3) (fun i r hi => by rw [List.map_append] at hi; exact hi) (fun i j _ _ h => by omega)
 exact H6.imp fun _ h => fun y hy => by
  rcases List.mem_append.1 hy with hy | hy
  ·exact h.2.1 y hy
  ·simp at hy; subst hy; rw [hnw]; exact ⟨(ints_ok h.1).sl, ints_cap h.1⟩
end Go.Proofs.YtmbppohkadmjgaaGreat
namespace Go.Sx
open Go.RowKit
section
variable {A0 : Nat -> Prop} {M : List Nat} {w0 w : World} {R : List Res} {P : World -> Prop} {t e : TypeId} {sz bytes : Nat} {z : Value} {Pr : Program} {α : Type} {enc : α -> List Value}
end
end Go.Sx
namespace Go.Proofs.YtmbppohkadmjgaaGreat
open Go.Sx Go.RowKit
set_option maxRecDepth 100000

def RetC (w : World) (x : Sd) (e : Ending) (w' : World) : Prop :=
 ∃ a c L, L.map (·.u) = x.units /\ e = .returned (aggS x a c) /\ St (fun _ => False) [] w w' (.els encUP Ty_api_Unit 5 a c L :: L.map agR) (DatR L)

end Go.Proofs.YtmbppohkadmjgaaGreat
namespace Go.Sx
open Go.RowKit
end Go.Sx
namespace Go.Proofs.YtmbppohkadmjgaaGreat
open Go.Sx Go.RowKit
set_option maxRecDepth 100000

end Go.Proofs.YtmbppohkadmjgaaGreat
namespace Go.Sx
def askU (u : Un) : Bool := decide (0 < u.again.length)
def restU (u : Un) : Bool := !decide (wholeU u)
def leftI (L : List Un) : Int := if idx askU L >= 0 then idx askU L else idx restU L
def partU (u : Un) : Rg := match u.again with | r :: _ => r | [] => ⟨u.sn, u.sent, u.data.length⟩
theorem idx_some {α : Type} {p : α -> Bool} {l : List α} (h : 0 <= idx p l) : ∃ (k : Nat) (hk : k < l.length), idx p l = k /\ p l[k] = true := by
 unfold idx at h ⊢
 cases hf : l.findIdx? p with
 | none => rw [hf] at h; simp at h
 | some i =>
  obtain ⟨hi, hp, _⟩ := List.findIdx?_eq_some_iff_getElem.1 hf
  exact ⟨i, hi, rfl, hp⟩
theorem leftI_some {L : List Un} (h : 0 <= leftI L) : ∃ (k : Nat) (hk : k < L.length), leftI L = k := by
 unfold leftI at h ⊢
 split at h
 ·rename_i h1
  obtain ⟨k, hk, e, _⟩ := idx_some h1
  exact ⟨k, hk, by rw [if_pos h1, e]⟩
 ·rename_i h1
  obtain ⟨k, hk, e, _⟩ := idx_some h
  exact ⟨k, hk, by rw [if_neg h1, e]⟩
end Go.Sx
namespace Go.Proofs.YtmbppohkadmjgaaGreat
open Go.Sx Go.RowKit
set_option maxRecDepth 100000

section
variable {u : Un} {a1 a2 : Option Addr} {c1 c2 : Nat} {w : World}
theorem sender_side_left_1_ct : Calls Tryz.prog N_sender_side_left_1 #[aggU u a1 c1 a2 c2] w fun e w' => e = .returned (.bool (askU u)) /\ Below w.heap.size w w' := by
 apply F_sender_side_left_1_ok
 unfold F_sender_side_left_1
 have H := St.nil w
 refine H.alloc ?_; clear H; intro b w1 H1
 refine H1.ldS (i := 0) rfl rfl ?_
 refine kLet_in ?_
 exact ⟨retD (by omega), H1.below⟩
theorem sender_side_left_2_ct : Calls Tryz.prog N_sender_side_left_2 #[aggU u a1 c1 a2 c2] w fun e w' => e = .returned (.bool (restU u)) /\ Below w.heap.size w w' := by
 apply F_sender_side_left_2_ok
 unfold F_sender_side_left_2
 have H := St.nil w
 refine H.alloc ?_; clear H; intro b w1 H1
 refine ⟨_, _, _, _, _, _, _, _, _, H1.cells (i := 0) rfl, ?_⟩
 refine sender_whole_ct.mono ?_
 rintro _ w2 ⟨rfl, hb2⟩
 exact ⟨_, rfl, rfl, (H1.pass hb2).below⟩
end
theorem sender_side_left_ct {s : Sd} {b o : Nat} {w : World} (hs : SdC w b o s) (hl : s.units.length <= 140737488355328) :
 Calls Tryz.prog N_sender_side_left #[(.pointer (some ⟨b, o, none⟩))] w fun e w' => e = .returned (.int .i64 (leftI s.units)) /\ Below w.heap.size w w' := by
 apply F_sender_side_left_ok
 unfold F_sender_side_left
 have H := St.nil w
 obtain ⟨a, c, hc, hu⟩ := hs
 refine ⟨_, _, _, lq (j := 8) hc rfl, ?_⟩
 refine (indexFuncU_ct hu hl askU (ff := #[]) (fc := #[]) (g := N_sender_side_left_1) (by kernel_rfl) fun w' u a1 c1 a2 c2 _ _ => ?_).mono ?_
 ·have h := @sender_side_left_1_ct u a1 a2 c1 c2 w'
  exact h
 rintro _ w1 ⟨rfl, hb1⟩; have H1 := H.pass hb1; clear H
 refine ⟨_, rfl, ?_⟩
 refine bsplit_dec (fun c => ?_) (fun c => ?_)
 ·exact ⟨by rw [leftI, if_pos c], H1.below⟩
 ·refine ⟨_, _, _, lq (j := 8) (cells_below hc H1.below) rfl, ?_⟩
  refine (indexFuncU_ct (unR_below hu H1.below) hl restU (ff := #[]) (fc := #[]) (g := N_sender_side_left_2) (by kernel_rfl) fun w' u a1 c1 a2 c2 _ _ => ?_).mono ?_
  ·have h := @sender_side_left_2_ct u a1 a2 c1 c2 w'
   exact h
  rintro _ w2 ⟨rfl, hb2⟩; have H2 := H1.pass hb2; clear H1
  refine ⟨_, rfl, ?_⟩
  exact ⟨by rw [leftI, if_neg c], H2.below⟩

def todoR (L : List Un) (e : Ending) : Prop := (leftI L < 0 /\ e = .returned (.tuple #[.int .i64 0, .int .i64 0, .int .i64 0, .bool false])) \/
 ∃ (k : Nat) (hk : k < L.length), leftI L = k /\ e = .returned (.tuple #[.int .i64 k, .int .i64 (partU L[k]).f, .int .i64 (partU L[k]).t, .bool true])
end Go.Proofs.YtmbppohkadmjgaaGreat
namespace Go.Sx
def pieceU (u : Un) : Pc := ⟨u.sn, partOf (decide ((partU u).f = 0)) (decide ((partU u).t = u.data.length)), 0, (partU u).f, (u.data.take (partU u).t.toNat).drop (partU u).f.toNat⟩
def takeU (u : Un) (n : Int) : Un := match u.again with
 | [] => { u with sent := u.sent + n }
 | r :: l => if r.f + n = r.t then { u with again := l } else { u with again := ⟨r.sn, r.f + n, r.t⟩ :: l }
def lastSn (L : List Un) (d : Int) : Int := L.foldl (fun q u => if 0 < u.sent then u.sn else q) d
def askS (s : Sd) : Sd := { s with pieces := 0, left := s.lk.poll, poll := lastSn s.units s.poll }
def buildT (s : Sd) (k : Nat) (u : Un) (q : Pc) : Sd × List Int × Int :=
 let s1 : Sd := { s with units := s.units.set k (takeU u q.data.length), pieces := s.pieces + 1 }
 if s1.pieces = s.lk.every \/ leftI s1.units < 0 then (askS s1, (encP s.lk.bits { q with poll := 1 }).1, 0) else (s1, (encP s.lk.bits q).1, 0)
def buildS (s : Sd) (size : Int) (E0 : Int) : Sd × List Int × Int :=
 if E0 ≠ 0 then (.zero, [], E0) else if ¬ (0 <= size /\ size <= 4096) then (.zero, [], 3)
 else if leftI s.units < 0 then (.zero, [], 14) else match s.units[(leftI s.units).toNat]? with
  | none => (.zero, [], 14)
  | some u => if (cutP s.lk.bits (pieceU u) size).2.2 ≠ 0 then (.zero, [], (cutP s.lk.bits (pieceU u) size).2.2) else buildT s (leftI s.units).toNat u (cutP s.lk.bits (pieceU u) size).1
theorem partU_in {l : Lk} {u : Un} (h : unB l u = true) (hl : askU u = true \/ restU u = true) : 0 <= (partU u).f /\ (partU u).f < (partU u).t /\ (partU u).t <= u.data.length := by
 unfold unB at h
 simp only [Bool.and_eq_true, decide_eq_true_eq, Bool.not_eq_true'] at h
 obtain ⟨⟨hn, h1⟩, h2⟩ := h
 obtain ⟨_, h3, h4, _⟩ := hn
 unfold partU
 cases ha : u.again with
 | nil =>
  have : restU u = true := by
   rcases hl with h | h
   ·unfold askU at h; rw [ha] at h; simp at h
   ·exact h
  have hw : ¬ wholeU u := by
   unfold restU at this
   simpa using this
  unfold wholeU at hw
  dsimp only
  omega
 | cons r t =>
  rw [ha] at h1 h2
  simp only [normB, Bool.and_eq_true, decide_eq_true_eq] at h1
  have := List.any_eq_false.1 h2 r (by simp)
  simp only [offR, decide_eq_true_eq] at this
  dsimp only
  omega
theorem cut_ok {b : Int} {p : Pc} {size : Int} (h : (cutP b p size).2.2 = 0) : (cutP b p size).1.ok b /\ (cutP b p size).1.poll = p.poll := by
 unfold cutP at h ⊢
 split at h
 ·exact absurd h (by decide)
 ·rename_i hp
  rw [if_neg hp]
  have hp := Decidable.not_not.1 hp
  split at h
  ·exact absurd h (by decide)
  ·rename_i hs
   rw [if_neg hs]
   split
   ·exact ⟨hp, rfl⟩
   ·rename_i hlt
    refine ⟨?_, rfl⟩
    obtain ⟨h1, h2, h3, h4, h5, h6, h7, h8⟩ := hp
    have hlen : (p.data.take (size - headN p.part).toNat).length = (size - headN p.part).toNat := by rw [List.length_take]; omega
    refine ⟨h1, h2, ?_, h4, ?_, h6, ?_, ?_⟩
    ·unfold partOf begins; split <;> simp
    ·unfold partOf begins
     by_cases hb : p.part = 0 \/ p.part = 1
     ·simp [hb, h5.1 hb]
     ·simp only [decide_eq_false hb]
      have : ¬ p.off = 0 := fun e => hb (h5.2 e)
      simp [this]
    ·dsimp only; rw [hlen]; omega
    ·dsimp only; rw [hlen]; omega
end Go.Sx
namespace Go.Sx
open Go.RowKit
theorem okB_left {s : Sd} (h : s.okB = true) : 0 <= s.left /\ s.left <= 1000 := by
 obtain ⟨-, hlk, -⟩ := okB_fit h
 unfold Sd.okB at h
 simp only [Bool.and_eq_true] at h
 have h2 := h.2
 have h3 := hlk.2.2.1
 split at h2
 ·rw [decide_eq_true_iff] at h2; omega
 ·simp only [Bool.and_eq_true, decide_eq_true_eq] at h2; omega
def tryU (u : Un) : Un := { u with again := [⟨u.sn, 0, u.sent⟩] }
def lastS (s : Sd) : Sd := match s.units[s.units.length - 1]? with
 | none => s
 | some u => if u.tries = s.lk.tries then { s with units := s.units.set (s.units.length - 1) (tryU u), failed := true } else { s with units := s.units.set (s.units.length - 1) { tryU u with tries := u.tries + 1 } }
def tickT (s : Sd) : Sd := if 0 <= leftI s.units then { s with left := s.left - 1, poll := -1, pieces := s.lk.every - 1 } else lastS { s with left := s.left - 1, poll := -1 }
def tickS (s : Sd) (E0 : Int) : Sd × Int := if E0 ≠ 0 then (.zero, E0) else if s.left = 0 then (s, 0) else if s.left - 1 > 0 then ({ s with left := s.left - 1 }, 0) else (tickT s, 0)
end Go.Sx
namespace Go.Proofs.YtmbppohkadmjgaaGreat
open Go.Sx Go.RowKit
set_option maxRecDepth 100000

theorem finU {w w' : World} {X0 X1 X2 : Res} {a : Option Addr} {c : Nat} {L : List UP} {Q : World -> Prop} (H : St (fun _ => False) [] w w' (X0 :: X1 :: X2 :: .els encUP Ty_api_Unit 5 a c L :: L.map agR) Q) (h : ∀ w, Q w -> DatR L w) :
 St (fun _ => False) [] w w' (.els encUP Ty_api_Unit 5 a c L :: L.map agR) (DatR L) :=
 (H.sub (fun i => i + 3) (fun i r hi => hi) (fun i j _ _ h => by omega)).imp h
theorem sideU {w w' : World} {X0 X1 X2 : Res} {a : Option Addr} {c : Nat} {L : List UP} {Q : World -> Prop} {s : Sd} (H : St (fun _ => False) [] w w' (X0 :: X1 :: X2 :: .els encUP Ty_api_Unit 5 a c L :: L.map agR) Q) (h : ∀ w, Q w -> DatR L w) (hL : L.map (·.u) = s.units) :
 UnR w' a s.units := by
 have K := shareAg (R := [X0, X1, X2, .els encUP Ty_api_Unit 5 a c L]) H
 rw [<- hL]
 exact up_unR (K.slE encUP_ok (i := 3) rfl) (h _ K.get.2).out K.get.1
theorem begE_ok {s : Sd} (hE : begE s = 0) : s.okB = true /\ s.failed = false := by
 unfold begE at hE
 split at hE
 ·omega
 ·split at hE
  ·omega
  ·rename_i h1 h2
   exact ⟨by simpa using h1, by simpa using h2⟩

theorem sender_Tick_ct {s : Sd} {a : Option Addr} {c : Nat} {w : World} (hu : UnR w a s.units) (hl : SmU s.units) :
 Calls Tryz.prog N_sender_Tick #[aggS s a c] w (RetO w (tickS s (begE s)).1 (tickS s (begE s)).2) := by
 apply F_sender_Tick_ok
 unfold F_sender_Tick
 have H := St.nil w
 refine H.alloc ?_; clear H; intro b0 w1 H1
 refine H1.alloc ?_; clear H1; intro b1 w2 H2
 simp only [List.cons_append, List.nil_append] at H2
 refine ⟨_, _, _, _, _, _, _, _, _, _, _, _, _, _, _, H2.cells (i := 0) rfl, ?_⟩
 refine (sender_begin_ct (unR_below hu H2.below) hl).mono ?_
 rintro _ w3 (⟨hE, rfl, hb3⟩ | ⟨hE, b, ua, uc, L, hL, rfl, K3⟩)
 ·have H3 := H2.pass hb3; clear H2
  refine ⟨_, _, rfl, ?_⟩
  refine bsplit_nd (fun _ => ?_) (fun h => absurd h hE)
  rw [tickS, if_pos hE]
  exact retZ H3 (i := 1) rfl rfl
 have H3 := H2.callF K3; clear H2
 simp only [List.cons_append, List.nil_append] at H3
 refine ⟨_, _, rfl, ?_⟩
 refine bsplit_nd (fun h => absurd rfl h) (fun _ => ?_)
 obtain ⟨hok, hfa⟩ := begE_ok hE
 obtain ⟨⟨hf1, hf2⟩, hlk, hsf, hsn, hall⟩ := okB_fit hok
 have hlf := okB_left hok
 have hlen : L.length = s.units.length := by rw [<- hL, List.length_map]
 rw [tickS, if_neg (by omega)]
 refine kNil_in ?_
 rw [add_mk]
 refine H3.ld (i := 2) rfl rfl ?_
 refine bsplit_dec (fun c3 => ?_) (fun c3 => ?_)
 ·rw [if_pos c3]
  refine kNil_in ?_
  refine ⟨_, _, _, _, _, _, _, _, _, _, _, _, _, _, _, H3.cells (i := 2) rfl, ?_⟩
  exact retS (x := s) (a := ua) (c := uc) (L := L) (i := 1) H3 rfl rfl hL fun w4 H4 => finU H4 fun _ h => h.1
 rw [if_neg c3]
 refine kNil_in ?_
 rw [add_mk]
 refine H3.ld (i := 2) rfl rfl ?_
 refine kW_i64 (by omega) ?_
 refine kNil_in ?_
 rw [add_mk]
 refine H3.set (i := 2) rfl (by show 0 + 11 < 13; decide) ?_; clear H3; intro w6 H6
 simp only [List.set_cons_succ, List.set_cons_zero] at H6
 refine kNil_in ?_
 rw [add_mk]
 refine H6.ld (i := 2) rfl rfl ?_
 refine bsplit_dec (fun c2 => ?_) (fun c2 => ?_)
 ·rw [if_pos c2]
  refine kNil_in ?_
  refine ⟨_, _, _, _, _, _, _, _, _, _, _, _, _, _, _, H6.cells (i := 2) rfl, ?_⟩
  exact retS (x := { s with left := s.left - 1 }) (a := ua) (c := uc) (L := L) (i := 1) H6 rfl rfl hL fun w4 H4 => finU H4 fun _ h => h.1
 rw [if_neg c2]
 refine kNil_in ?_
 rw [add_mk]
 refine H6.set (i := 2) rfl (by show 0 + 10 < 13; decide) ?_; clear H6; intro w8 H8
 simp only [List.set_cons_succ, List.set_cons_zero] at H8
 obtain ⟨t, ht⟩ : ∃ t : Sd, t = { s with left := s.left - 1, poll := -1 } := ⟨_, rfl⟩
 have htu : t.units = s.units := by rw [ht]
 have htl : t.lk = s.lk := by rw [ht]
 replace H8 : St (fun _ => False) [] w w8 (.blk b0 Ty_api_Sender (encSd s a c) :: .blk b1 Ty_api_Sender (encSd .zero none 0) :: .blk b Ty_sender_side (encSd t ua uc) :: .els encUP Ty_api_Unit 5 ua uc L :: L.map agR) (fun w => DatR L w /\ True) := by rw [ht]; exact H8
 have hT : tickT s = if 0 <= leftI t.units then { t with pieces := t.lk.every - 1 } else lastS t := by rw [ht]; rfl
 rw [<- htu] at hL hf1 hf2 hall hlen
 rw [<- htl] at hlk
 refine kNil_in ?_
 rw [add_mk]
 refine H8.ldS (i := 2) rfl rfl ?_
 refine ⟨fun w15 => ∃ (x : Sd) (L' : List UP), tickT s = x /\ L'.map (·.u) = x.units /\ St (fun _ => False) [] w w15 (.blk b0 Ty_api_Sender (encSd s a c) :: .blk b1 Ty_api_Sender (encSd .zero none 0) :: .blk b Ty_sender_side (encSd x ua uc) :: .els encUP Ty_api_Unit 5 ua uc L' :: L'.map agR) (DatR L'), ?_, ?_⟩
 ·rintro _  w15 ⟨x, L', hx, hL', H15⟩
  refine kNil_in ?_
  refine ⟨_, _, _, _, _, _, _, _, _, _, _, _, _, _, _, H15.cells (i := 2) rfl, ?_⟩
  rw [hx]
  exact retS (x := x) (a := ua) (c := uc) (L := L') (i := 1) H15 rfl rfl hL' fun w4 H4 => finU H4 fun _ h => h
 refine (sender_side_left_ct (s := t) (b := b) (o := 0) ⟨ua, uc, H8.cells (i := 2) rfl, sideU H8 (fun _ h => h.1) hL⟩ (by omega)).mono ?_
 rintro _ w9 ⟨rfl, hb9⟩; have H9 := H8.pass hb9; clear H8
 refine ⟨_, rfl, ?_⟩
 refine kLet_in ?_
 refine bsplit_dec (fun c1 => ?_) (fun c1 => ?_)
 ·have hev := hlk.2.1
  refine kNil_in ?_
  rw [add_mk]
  refine H9.ld (i := 2) rfl rfl ?_
  refine kW_i64 (by omega) ?_
  refine kNil_in ?_
  rw [add_mk]
  refine H9.set (i := 2) rfl (by show 0 + 9 < 13; decide) ?_; clear H9; intro w10 H10
  simp only [List.set_cons_succ, List.set_cons_zero] at H10
  exact ⟨{ t with pieces := t.lk.every - 1 }, L, by rw [hT, if_pos c1], hL, H10.imp fun _ h => h.1⟩
 refine kLet_in ?_
 rw [if_neg c1] at hT
 refine bsplit_dec (fun c0 => ?_) (fun c0 => ?_)
 ·obtain ⟨k, hk⟩ : ∃ k, k = t.units.length - 1 := ⟨_, rfl⟩
  have hkt : k < t.units.length := by omega
  have hkL : k < L.length := by omega
  obtain ⟨x, hx⟩ : ∃ x, x = L[k] := ⟨_, rfl⟩
  have hxu : t.units[k] = x.u := by rw [hx]; simp [<- hL]
  have hmu : x.u ∈ s.units := by rw [<- htu, <- hxu]; exact List.getElem_mem _
  have htr : x.u.tries <= 32 /\ 0 <= x.u.tries := by
   have h1 := (hall x.u (by rw [htu]; exact hmu)).1
   unfold unB at h1
   simp only [Bool.and_eq_true, decide_eq_true_eq] at h1
   have h2 := h1.1.1.2.2.2
   have h3 := hlk.2.2.2.2.2
   rw [htl] at h3
   omega
  have hTl : tickT s = if x.u.tries = t.lk.tries then { t with units := t.units.set k (tryU x.u), failed := true } else { t with units := t.units.set k { tryU x.u with tries := x.u.tries + 1 } } := by
   rw [hT, lastS, <- hk, List.getElem?_eq_getElem hkt, hxu]
  refine kNil_in ?_
  rw [add_mk]
  refine H9.ldS (i := 2) rfl rfl ?_
  refine kW_i64 (by omega) ?_
  have e1 : ((t.units.length : Int) - 1) = (k : Int) := by omega
  rw [e1]
  obtain ⟨g, rfl, hg1, hg2⟩ := H9.rowSome (i := 3) rfl (by omega)
  refine kIx_at ⟨by omega, by omega⟩ ?_
  refine H9.drew ?_; clear H9; intro w11 H11
  simp only [elAd, elA0]
  refine ⟨(· < w11.heap.size), ?_⟩
  refine ⟨_, H11.cellEl encUP_ok (i := 3) rfl hkL (j := 0) (v := .int .i64 x.u.sn) (by decide) (by rw [<- hx]; rfl), ?_⟩
  refine ⟨_, H11.cellEl encUP_ok (i := 3) rfl hkL (j := 2) (v := .int .i64 x.u.sent) (by decide) (by rw [<- hx]; rfl), ?_⟩
  refine ⟨fun _ _ _ h => h, ?_⟩
  refine H11.allocB ?_; clear H11; intro b3 w12 hb12 H12
  refine ⟨hb12.keeps, ?_⟩
  have H12 := St.litLast [Rg.mk x.u.sn 0 x.u.sent] encR_ok H12 (by show 1 <= maxLen; decide)
  simp only [List.cons_append] at H12
  obtain ⟨y, hy⟩ : ∃ y : UP, y = ⟨tryU x.u, x.a, x.c, some ⟨b3, 0, none⟩, 1⟩ := ⟨_, rfl⟩
  refine H12.setEl encUP_ok (i := 3) rfl hkL (j := 4) (by decide) y (by rw [<- hx, hy]; rfl) ?_
  clear H12; intro w13 f13 H13
  simp only [List.set_cons_succ, List.set_cons_zero] at H13
  have H13 := St.swapLast (X := [_, _, _, _]) k H13
  have eA : (L.map agR).set k (.els encR Ty_api_Range 3 (some ⟨b3, 0, none⟩) [Rg.mk x.u.sn 0 x.u.sent].length [Rg.mk x.u.sn 0 x.u.sent]) = (L.set k y).map agR := by
   rw [List.map_set, hy]; rfl
  rw [eA] at H13
  simp only [List.cons_append, List.nil_append] at H13
  have hdat : ∀ {z : UP}, (z.a = x.a /\ z.c = x.c) -> z.u.data = x.u.data -> ∀ w, DatR L w -> DatR (L.set k z) w := fun h1 h2 w h v hv => by
   rcases List.mem_or_eq_of_mem_set hv with hv | rfl
   ·exact h v hv
   ·rw [h1.1, h1.2, h2]; exact h x (by rw [hx]; exact List.getElem_mem _)
  have hmap : ∀ (z : UP), (L.set k z).map (·.u) = t.units.set k z.u := fun z => by rw [List.map_set, hL]
  have hkL' : k < (L.set k y).length := by simpa using hkL
  refine F_sender_side_again_ok b 0 g (k * 5) w13 ?_
  unfold F_sender_side_again
  refine H13.drew ?_; clear H13; intro w15 H15
  have c3 := H15.cellEl encUP_ok (i := 3) rfl hkL' (j := 3) (v := .int .i64 x.u.tries) (by decide) (by rw [List.getElem_set_self, hy]; rfl)
  refine ⟨_, c3, ?_⟩
  refine H15.ld (i := 2) rfl rfl ?_
  refine bsplit_dec (fun c9 => ?_) (fun c9 => ?_)
  ·refine H15.set (i := 2) rfl (by show 0 + 12 < 13; decide) ?_; clear H15; intro w16 H16
   simp only [List.set_cons_succ, List.set_cons_zero] at H16
   refine ⟨rfl, { t with units := t.units.set k (tryU x.u), failed := true }, L.set k y, ?_, ?_, ?_⟩
   ·rw [hTl, if_pos c9]
   ·rw [hmap, hy]
   ·have e2 : (encSd t (some ⟨g, 0, none⟩) uc).set (0 + 12) (.bool true) = encSd { t with units := t.units.set k (tryU x.u), failed := true } (some ⟨g, 0, none⟩) uc := by
     simp only [encSd, List.length_set]; rfl
    rw [e2] at H16
    exact H16.imp fun w h => hdat (by rw [hy]; exact ⟨rfl, rfl⟩) (by rw [hy]; rfl) w h.1
  ·refine ⟨_, c3, ?_⟩
   refine kW_i64 (by omega) ?_
   obtain ⟨z, hz⟩ : ∃ z : UP, z = ⟨{ tryU x.u with tries := x.u.tries + 1 }, x.a, x.c, some ⟨b3, 0, none⟩, 1⟩ := ⟨_, rfl⟩
   refine H15.setEl encUP_ok (i := 3) rfl hkL' (j := 3) (by decide) z (by rw [List.getElem_set_self, hy, hz]; rfl) ?_
   clear H15; intro w16 f16 H16
   simp only [List.set_cons_succ, List.set_cons_zero] at H16
   rw [List.set_set] at H16
   have eB : (L.set k y).map agR = (L.set k z).map agR := by rw [List.map_set, List.map_set, hy, hz]; rfl
   rw [eB] at H16
   refine ⟨rfl, { t with units := t.units.set k { tryU x.u with tries := x.u.tries + 1 } }, L.set k z, ?_, ?_, ?_⟩
   ·rw [hTl, if_neg c9]
   ·rw [hmap, hz]
   ·have e2 : encSd t (some ⟨g, 0, none⟩) uc = encSd { t with units := t.units.set k { tryU x.u with tries := x.u.tries + 1 } } (some ⟨g, 0, none⟩) uc := by
     simp only [encSd, List.length_set]
    rw [e2] at H16
    exact H16.imp fun w h => hdat (by rw [hz]; exact ⟨rfl, rfl⟩) (by rw [hz]; rfl) w h.1
 ·have h0 : t.units.length = 0 := by omega
  refine ⟨t, L, ?_, hL, H9.imp fun _ h => h.1⟩
  rw [hT, lastS, List.getElem?_eq_none (by omega)]
end Go.Proofs.YtmbppohkadmjgaaGreat
namespace Go.Proofs.YtmbppohkadmjgaaGreat
open Go.Sx Go.RowKit
set_option maxRecDepth 100000

theorem unB_sent {l : Lk} {u : Un} (h : unB l u = true) : u.sent <= u.data.length /\ 0 <= u.sent /\ 0 <= u.tries /\ u.tries <= l.tries := by
 unfold unB at h
 simp only [Bool.and_eq_true, decide_eq_true_eq] at h
 have := h.1.1.2.2
 omega
end Go.Proofs.YtmbppohkadmjgaaGreat
namespace Go.Sx
open Go.RowKit
def clipR (u : Un) (x : Rg) : Rg := ⟨x.sn, x.f, if u.sent < (if whole x then u.sent else x.t) then u.sent else if whole x then u.sent else x.t⟩
def missStep (u : Un) (p : List Rg × Bool) (x : Rg) : List Rg × Bool := if x.sn ≠ u.sn then p else (if (clipR u x).f < (clipR u x).t then p.1 ++ [clipR u x] else p.1, true)
def missS (u : Un) (M : List Rg) : List Rg × Bool := M.foldl (missStep u) ([], false)
theorem missS_take {u : Un} {M : List Rg} {k : Nat} (h : k < M.length) : missS u (M.take (k + 1)) = missStep u (missS u (M.take k)) M[k] := by
 rw [List.take_succ_eq_append_getElem h, missS, List.foldl_append]; rfl
theorem missStep_len (u : Un) (p : List Rg × Bool) (x : Rg) : (missStep u p x).1.length <= p.1.length + 1 := by
 unfold missStep
 split
 ·omega
 ·dsimp only; split <;> simp
theorem missS_len {u : Un} {M : List Rg} : ∀ {k : Nat}, k <= M.length -> (missS u (M.take k)).1.length <= k
 | 0, _ => by simp [missS]
 | k + 1, h => by
  rw [missS_take (by omega)]
  have := missStep_len u (missS u (M.take k)) (M[k]'(by omega))
  have := missS_len (u := u) (M := M) (k := k) (by omega)
  omega
end Go.Sx
namespace Go.Proofs.YtmbppohkadmjgaaGreat
open Go.Sx Go.RowKit
set_option maxRecDepth 100000

section
variable {u : Un} {a1 a2 a : Option Addr} {c1 c2 c : Nat} {upto : Int} {M : List Rg} {w : World}
def RetM (w : World) (l : List Rg) (named : Bool) (e : Ending) (w' : World) : Prop :=
 ∃ a c, e = .returned (.tuple #[.slice a l.length c, .bool named]) /\ FreshR w w' [.els encR Ty_api_Range 3 a c l]
theorem sender_missing_ct (hM : SlR (CE encR) 3 w a M) (hl : M.length <= 1000000) :
 Calls Tryz.prog N_sender_missing #[aggU u a1 c1 a2 c2, (.agg #[.int .i64 upto, .slice a M.length c])] w (RetM w (missS u M).1 (missS u M).2) := by
 apply F_sender_missing_ok
 unfold F_sender_missing
 have H := St.nil w
 refine H.alloc ?_; clear H; intro b w1 H1
 refine H1.alloc ?_; clear H1; intro b1 w2 H2
 have H2 := H2.nilE encR Ty_api_Range 3
 simp only [List.cons_append, List.nil_append] at H2
 replace H2 : St (fun _ => False) [] w w2 [.blk b Ty_api_Unit (encU u a1 c1 a2 c2), .blk b1 Ty_api_Status [(.int .i64 upto), (.slice a M.length c)], .els encR Ty_api_Range 3 none 0 []] (fun _ => True) := H2
 refine H2.ldS (i := 1) rfl rfl ?_
 refine ⟨fun out_a out_l out_c named x => ((M.length - x).toNat, fun w3 => ∃ k : Nat, x = k /\ k <= M.length /\ out_l = (missS u (M.take k)).1.length /\ named = (missS u (M.take k)).2 /\
  St (fun _ => False) [] w w3 [.blk b Ty_api_Unit (encU u a1 c1 a2 c2), .blk b1 Ty_api_Status [(.int .i64 upto), (.slice a M.length c)], .els encR Ty_api_Range 3 out_a out_c (missS u (M.take k)).1] (fun _ => True)), ⟨0, rfl, by omega, rfl, rfl, H2⟩, ?_⟩
 clear H2
 rintro _ out_a out_l out_c named x w3 ⟨k, rfl, hk, rfl, rfl, H3⟩
 refine bsplit_dec (fun c3 => ?_) (fun c3 => ?_)
 ·have hlt : k < M.length := by omega
  have hstep := missS_take (u := u) hlt
  have hlen := missS_len (u := u) (M := M) hk
  obtain ⟨p, hp⟩ : ∃ p, p = missS u (M.take k) := ⟨_, rfl⟩
  rw [<- hp] at hstep hlen H3 ⊢
  obtain ⟨x, hx⟩ : ∃ x, x = M[k] := ⟨_, rfl⟩
  rw [<- hx] at hstep
  refine ixE (hM.belowE H3.below) k rfl hlt fun b2 r hr hb2 => ?_
  obtain rfl : x = r := by rw [List.getElem?_eq_getElem hlt] at hr; injection hr with hr; rw [hx]; exact hr
  refine ⟨_, _, _, hb2, ?_⟩
  refine H3.alloc ?_; clear H3; intro b3 w4 H4
  simp only [List.cons_append, List.nil_append] at H4
  refine H4.store (i := 3) rfl (by rfl) (by rfl) ?_; clear H4; intro w5 H5
  simp only [List.set_cons_succ, List.set_cons_zero] at H5
  refine H5.ld (i := 3) rfl rfl ?_
  refine H5.ld (i := 0) rfl rfl ?_
  refine bsplit_nd (fun cn => ?_) (fun cn => ?_)
  ·refine kW_i64 (by omega) ?_
   have e : missS u (M.take (k + 1)) = p := by rw [hstep, missStep, if_pos cn]
   exact ⟨⟨k + 1, by omega, by omega, by rw [e], by rw [e], by rw [e]; exact H5.first3⟩, by dsimp only; omega⟩
  ·obtain ⟨q, hq⟩ : ∃ q, q = if whole x then u.sent else x.t := ⟨_, rfl⟩
   refine ⟨fun w8 => St (fun _ => False) [] w w8 [.blk b Ty_api_Unit (encU u a1 c1 a2 c2), .blk b1 Ty_api_Status [(.int .i64 upto), (.slice a M.length c)], .els encR Ty_api_Range 3 out_a out_c p.1, .blk b3 Ty_api_Range [(.int .i64 x.sn), (.int .i64 x.f), (.int .i64 q)]] (fun _ => True), ?_, ?_⟩
   ·rintro _  w8 H8
    refine H8.ld (i := 3) rfl rfl ?_
    refine H8.ld (i := 0) rfl rfl ?_
    refine H8.set (i := 3) rfl (by show 2 < 3; decide) ?_; clear H8; intro w9 H9
    simp only [List.set_cons_succ, List.set_cons_zero] at H9
    refine H9.ld (i := 3) rfl rfl ?_
    refine H9.ld (i := 3) rfl rfl ?_
    have hcl : clipR u x = ⟨x.sn, x.f, if u.sent < q then u.sent else q⟩ := by rw [hq]; rfl
    have e : missS u (M.take (k + 1)) = (if (clipR u x).f < (clipR u x).t then p.1 ++ [clipR u x] else p.1, true) := by rw [hstep, missStep, if_neg (by omega)]
    refine bsplit_dec (fun c1' => ?_) (fun c1' => ?_)
    ·have e2 : missS u (M.take (k + 1)) = (p.1 ++ [Rg.mk x.sn x.f (if u.sent < q then u.sent else q)], true) := by rw [e, hcl, if_pos c1']
     refine ⟨_, _, _, H9.cells (i := 3) rfl, ?_⟩
     refine H9.alloc ?_; clear H9; intro b4 w10 H10
     refine H10.appEL [Rg.mk x.sn x.f (if u.sent < q then u.sent else q)] encR_ok (i := 2) rfl sl_Ty_S_api_Range rfl (by simp; omega) (by simp; omega) ?_
     intro x_a1 x_c1 w11 H11
     simp only [List.set_cons_succ, List.set_cons_zero] at H11
     refine kW_i64 (by omega) ?_
     exact ⟨⟨k + 1, by omega, by omega, by rw [e2], by rw [e2], by rw [e2]; exact H11.first3⟩, by dsimp only; omega⟩
    ·have e2 : missS u (M.take (k + 1)) = (p.1, true) := by rw [e, if_neg (by rw [hcl]; exact c1')]
     refine kW_i64 (by omega) ?_
     exact ⟨⟨k + 1, by omega, by omega, by rw [e2], by rw [e2], by rw [e2]; exact H9.first3⟩, by dsimp only; omega⟩
   ·refine ⟨_, _, _, H5.cells (i := 3) rfl, ?_⟩
    refine status_Whole_ct.mono ?_
    rintro _ w6 ⟨rfl, hb6⟩; have H6 := H5.pass hb6; clear H5
    refine ⟨_, rfl, ?_⟩
    refine bsplit_dec (fun c => ?_) (fun c => ?_)
    ·refine H6.ld (i := 0) rfl rfl ?_
     refine H6.set (i := 3) rfl (by show 2 < 3; decide) ?_; clear H6; intro w7 H7
     simp only [List.set_cons_succ, List.set_cons_zero] at H7
     rw [hq, if_pos c]; exact H7
    ·rw [hq, if_neg c]; exact H6
 ·obtain rfl : k = M.length := by omega
  rw [List.take_length] at H3 ⊢
  exact ⟨_, _, rfl, H3.sub (R' := [_]) (fun i => i + 2) (fun i r hi => by
   rcases i with _ | i
   ·exact hi
   ·simp at hi) (fun i j _ _ h => by omega)⟩
end
end Go.Proofs.YtmbppohkadmjgaaGreat
namespace Go.Sx
open Go.RowKit
section
variable {A0 : Nat -> Prop} {M : List Nat} {w0 w : World} {X T V : List Res} {r : Res} {P : World -> Prop}
end
def repStep (s : Sd) (upto : Int) (M : List Rg) (p : List Un × Bool) (u : Un) : List Un × Bool :=
 if upto <= s.place u.sn then (p.1 ++ [u], p.2)
 else if (missS u M).2 = true then
  (if u.again.length = 0 /\ 0 < (missS u M).1.length then
   (if u.tries = s.lk.tries then (p.1 ++ [{ u with again := (missS u M).1 }], true) else (p.1 ++ [{ u with again := (missS u M).1, tries := u.tries + 1 }], p.2))
   else (p.1 ++ [{ u with again := (missS u M).1 }], p.2))
 else if wholeU u then p else (p.1 ++ [u], p.2)
def repT (s : Sd) (r : Stt) : Sd :=
 let p := s.units.foldl (repStep s (s.place r.upto) r.miss) ([], false)
 let cut := s.poll ≠ -1 /\ s.place s.poll < s.place r.upto
 { s with units := p.1, failed := p.2, first := (match p.1 with | u :: _ => u.sn | [] => s.next), poll := if cut then -1 else s.poll, left := if cut then 0 else s.left }
def repS (s : Sd) (r : Stt) : Sd × Int :=
 if s.okB = false \/ ¬ okS s.lk.bits r then (.zero, 1) else if s.failed = true then (.zero, 16) else if s.place r.upto > s.place s.next then (.zero, 3) else (repT s r, 0)
end Go.Sx
namespace Go.Proofs.YtmbppohkadmjgaaGreat
open Go.Sx Go.RowKit
set_option maxRecDepth 100000
theorem place_cells {s : Sd} {a : Option Addr} {c b o : Nat} {n : Int} {w : World} (hc : cellsAt w ⟨b, o, none⟩ 0 (encSd s a c)) (hb : bitsOk s.lk.bits) :
 Calls Tryz.prog N_sender_side_place #[(.pointer (some ⟨b, o, none⟩)), (.int .i64 n)] w fun e w' => e = .returned (.int .i64 (s.place n)) /\ Below w.heap.size w w' := by
 apply F_sender_side_place_ok
 unfold F_sender_side_place
 have H := St.nil w
 refine H.drew ?_; clear H; intro w1 H1
 have hc1 := cells_below hc H1.below
 refine ⟨(· < w1.heap.size), ?_⟩
 refine ⟨_, lq (j := 0) hc1 rfl, ?_⟩
 refine ⟨_, lq (j := 6) hc1 rfl, ?_⟩
 refine serial_Distance_ct.mono ?_
 rintro _ w2 ⟨rfl, hb2⟩; have H2 := H1.pass hb2
 refine ⟨_, rfl, ?_⟩
 refine ⟨hb2.keeps, ?_⟩
 obtain ⟨hb1, hb3⟩ := hb
 exact ⟨by rw [if_pos (by omega)]; rfl, H2.below⟩
end Go.Proofs.YtmbppohkadmjgaaGreat
