import Derived.Test.YtmbppohkadmjgaaGreatEl2
import Derived.Test.YtmbppohkadmjgaaGreatCp
import Derived.Test.YtmbppohkadmjgaaGreatM18
import Derived.Test.YtmbppohkadmjgaaGreatEl
import Derived.Test.YtmbppohkadmjgaaGreatOp
namespace Go.Sx
open Go.RowKit
theorem take_set_end {α : Type} {L : List α} {k : Nat} {x : α} (h : k < L.length) : (L.set k x).take (k + 1) = L.take k ++ [x] := by
 rw [List.set_eq_take_append_cons_drop, if_pos h, List.take_append]
 simp [List.length_take, Nat.min_eq_left (Nat.le_of_lt h)]
 exact List.take_of_length_le (by simp; omega)
theorem drop_set_end {α : Type} {L : List α} {k : Nat} {x : α} : (L.set k x).drop (k + 1) = L.drop (k + 1) := by
 apply List.ext_getElem?
 intro i
 rw [List.getElem?_drop, List.getElem?_drop, List.getElem?_set_ne (by omega)]
theorem St.shareLast {A0 : Nat -> Prop} {w0 w : World} {R : List Res} {r : Res} {P : World -> Prop} (H : St A0 [] w0 w (R ++ [r]) P) : St A0 [] w0 w R fun w => r.ok w /\ P w := by
 have := H.share (i := R.length) (r := r) (by simp)
 rw [show (R ++ [r]).set R.length .gone = R ++ [.gone] by simp] at this
 exact this.dropLast
theorem keeps1 {w0 w : World} {q : Addr} {v : Value} (h0 : w0.cell? q = some v) (h1 : w.cell? q = some v) : KeepsA (fun p => p ∈ [q]) w0 w :=
 keepsL fun p hp => by simp at hp; subst hp; exact ⟨v, h0, h1⟩
theorem elAd (g k j : Nat) : ((⟨g, 0, none⟩ : Addr).add ((k : Int).toNat * 5)).add j = ⟨g, k * 5 + j, none⟩ := by rw [Int.toNat_natCast, add_mk, add_mk, Nat.zero_add]
section
variable {A0 : Nat -> Prop} {M : List Nat} {w0 w : World} {R : List Res} {P : World -> Prop} {i : Nat} {t e t0 : TypeId} {sz c bytes g : Nat} {a : Option Addr} {z : Value} {Pr : Program} {α : Type} {enc : α -> List Value} {ys : List α}
theorem St.appEL (zs : List α) (H : St A0 M w0 w (R ++ [.blk g t0 (zs.flatMap enc)]) P) (hE : Enc enc sz) (hi : R[i]? = some (.els enc e sz a c ys)) (hT : SlTy Pr t e sz bytes z) {c2 m : Nat} (hm : m = zs.length)
 (hbytes : (ys.length + zs.length) * bytes <= 140737488355328) (h63 : ys.length + zs.length <= 4611686018427387904) {ty : TypeId} {F : Option Addr -> Nat -> Nat -> World -> Prop}
 (h : ∀ a' c' w', St A0 M w0 w' (R.set i (.els enc e sz a' c' (ys ++ zs))) P -> F a' (ys ++ zs).length c' w') : AppP Pr #[t, t] ty #[.slice a ys.length c, .slice (some ⟨g, 0, none⟩) m c2] w F := by
 have hlt : i < R.length := (List.getElem?_eq_some_iff.1 hi).1
 refine H.appEB (g := g) (t0 := t0) hE (i := i) (j := R.length) (by rw [List.getElem?_append_left hlt]; exact hi) zs (by simp) hT hm hbytes h63 fun a' c' w' H' => h a' c' w' ?_
 have e : (((R ++ [Res.blk g t0 (zs.flatMap enc)]).set i (.els enc e sz a' c' (ys ++ zs))).set R.length .gone) = R.set i (.els enc e sz a' c' (ys ++ zs)) ++ [.gone] := by
  rw [List.set_append_left _ _ hlt, List.set_append_right _ _ (by simp)]
  simp
 rw [e] at H'
 exact H'.dropLast
end
theorem kNil_in {a : Addr} {F : Addr -> Prop} (h : F a) : kNil (some a) F := h
section
variable {A0 : Nat -> Prop} {M : List Nat} {w0 w : World} {R : List Res} {P : World -> Prop} {t e : TypeId} {sz bytes : Nat} {z : Value} {Pr : Program} {α : Type} {enc : α -> List Value}
end
theorem St.lastTo {A0 : Nat -> Prop} {M : List Nat} {w0 w : World} {X T : List Res} {r : Res} {P : World -> Prop} (H : St A0 M w0 w (X ++ T ++ [r]) P) : St A0 M w0 w (X ++ r :: T) P := by
 refine H.sub (fun i => if i < X.length then i else if i = X.length then X.length + T.length else i - 1) (fun i s hi => ?_) (fun i j hi hj h => ?_)
 ·by_cases h : i < X.length
  ·rw [List.getElem?_append_left h] at hi
   rw [if_pos h, List.append_assoc, List.getElem?_append_left h]; exact hi
  ·rw [List.getElem?_append_right (by omega)] at hi
   rw [if_neg h]
   by_cases h2 : i = X.length
   ·rw [if_pos h2]
    subst h2
    simp at hi
    subst hi
    simp
   ·rw [if_neg h2]
    obtain ⟨j, hj⟩ : ∃ j, i = X.length + (j + 1) := ⟨i - X.length - 1, by omega⟩
    subst hj
    rw [show X.length + (j + 1) - X.length = j + 1 by omega, List.getElem?_cons_succ] at hi
    rw [List.append_assoc, List.getElem?_append_right (by omega), show X.length + (j + 1) - 1 - X.length = j by omega, List.getElem?_append_left (List.getElem?_eq_some_iff.1 hi).1]
    exact hi
 ·simp only [List.length_append, List.length_cons] at hi hj
  split at h <;> split at h <;> (try split at h) <;> (try split at h) <;> omega
theorem elA0 (g k : Nat) : (⟨g, 0, none⟩ : Addr).add ((k : Int).toNat * 5) = ⟨g, k * 5, none⟩ := by rw [Int.toNat_natCast, add_mk, Nat.zero_add]
theorem St.swapLast {A0 : Nat -> Prop} {M : List Nat} {w0 w : World} {X T : List Res} {r : Res} {P : World -> Prop} (k : Nat) (H : St A0 M w0 w (X ++ T ++ [r]) P) : St A0 M w0 w (X ++ T.set k r) P := by
 refine H.sub (fun i => if i = X.length + k then X.length + T.length else i) (fun i s hi => ?_) (fun i j hi hj h => ?_)
 ·by_cases h : i = X.length + k
  ·rw [if_pos h]
   subst h
   rw [List.getElem?_append_right (by omega), Nat.add_sub_cancel_left] at hi
   have hlt := (List.getElem?_eq_some_iff.1 hi).1
   rw [List.length_set] at hlt
   rw [List.getElem?_set_self hlt] at hi
   injection hi with hi; subst hi
   simp
  ·rw [if_neg h]
   by_cases h1 : i < X.length
   ·rw [List.getElem?_append_left h1] at hi
    rw [List.append_assoc, List.getElem?_append_left h1]; exact hi
   ·rw [List.getElem?_append_right (by omega), List.getElem?_set_ne (by omega)] at hi
    rw [List.append_assoc, List.getElem?_append_right (by omega), List.getElem?_append_left (List.getElem?_eq_some_iff.1 hi).1]
    exact hi
 ·simp only [List.length_append, List.length_set] at hi hj
  split at h <;> split at h <;> omega
theorem St.litLast {A0 : Nat -> Prop} {M : List Nat} {w0 w : World} {R : List Res} {P : World -> Prop} {α : Type} {enc : α -> List Value} {sz b : Nat} {t : TypeId} (zs : List α) (hE : Enc enc sz) (H : St A0 M w0 w (R ++ [.blk b t (zs.flatMap enc)]) P) (hm : zs.length <= maxLen) :
 St A0 M w0 w (R ++ [.els enc t sz (some ⟨b, 0, none⟩) zs.length zs]) P := by
 have K := H.litE (b := b) (t := t) hE (i := R.length) zs (by simp) hm
 rw [show (R ++ [Res.blk b t (zs.flatMap enc)]).set R.length (.els enc t sz (some ⟨b, 0, none⟩) zs.length zs) = R ++ [.els enc t sz (some ⟨b, 0, none⟩) zs.length zs] by simp] at K
 exact K
theorem St.first3 {A0 : Nat -> Prop} {M : List Nat} {w0 w : World} {a b c : Res} {T : List Res} {P : World -> Prop} (H : St A0 M w0 w (a :: b :: c :: T) P) : St A0 M w0 w [a, b, c] P :=
 H.sub id (fun i r hi => by
  rcases i with _ | _ | _ | i
  ·exact hi
  ·exact hi
  ·exact hi
  ·simp at hi) (fun i j _ _ h => h)
section
variable {A0 : Nat -> Prop} {M : List Nat} {w0 w : World} {X T V : List Res} {r : Res} {P : World -> Prop}
theorem St.skip (H : St A0 M w0 w (X ++ r :: V) P) : St A0 M w0 w (X ++ V) P := by
 refine H.sub (fun i => if i < X.length then i else i + 1) (fun i s hi => ?_) (fun i j hi hj h => ?_)
 ·by_cases h : i < X.length
  ·rw [List.getElem?_append_left h] at hi
   rw [if_pos h, List.getElem?_append_left h]; exact hi
  ·rw [List.getElem?_append_right (by omega)] at hi
   rw [if_neg h, List.getElem?_append_right (by omega), show i + 1 - X.length = (i - X.length) + 1 by omega, List.getElem?_cons_succ]
   exact hi
 ·split at h <;> split at h <;> omega
theorem St.newIn (H : St A0 M w0 w (X ++ r :: (T ++ V)) P) : St A0 M w0 w (X ++ (T ++ r :: V)) P := by
 refine H.sub (fun i => if i < X.length then i else if i < X.length + T.length then i + 1 else if i = X.length + T.length then X.length else i) (fun i s hi => ?_) (fun i j hi hj h => ?_)
 ·by_cases h : i < X.length
  ·rw [List.getElem?_append_left h] at hi
   rw [if_pos h, List.getElem?_append_left h]; exact hi
  ·rw [List.getElem?_append_right (by omega)] at hi
   rw [if_neg h]
   by_cases h2 : i < X.length + T.length
   ·rw [if_pos h2, List.getElem?_append_right (by omega), show i + 1 - X.length = (i - X.length) + 1 by omega, List.getElem?_cons_succ, List.getElem?_append_left (by omega)]
    rw [List.getElem?_append_left (by omega)] at hi
    exact hi
   ·rw [if_neg h2]
    rw [List.getElem?_append_right (by omega)] at hi
    by_cases h3 : i = X.length + T.length
    ·subst h3
     rw [if_pos rfl]
     simp at hi
     subst hi
     simp
    ·rw [if_neg h3]
     obtain ⟨j, rfl⟩ : ∃ j, i = X.length + (T.length + (j + 1)) := ⟨i - X.length - T.length - 1, by omega⟩
     rw [show X.length + (T.length + (j + 1)) - X.length - T.length = j + 1 by omega, List.getElem?_cons_succ] at hi
     rw [List.getElem?_append_right (by omega), show X.length + (T.length + (j + 1)) - X.length = (T.length + j) + 1 by omega, List.getElem?_cons_succ, List.getElem?_append_right (by omega), show T.length + j - T.length = j by omega]
     exact hi
 ·split at h <;> split at h <;> (try split at h) <;> (try split at h) <;> (try split at h) <;> (try split at h) <;> (try split at h) <;> omega
end
section
variable {A0 : Nat -> Prop} {M : List Nat} {w0 w : World} {P : World -> Prop}
theorem St.left {X Y : List Res} (H : St A0 M w0 w (X ++ Y) P) : St A0 M w0 w X P :=
 H.sub id (fun i r hi => by rw [id, List.getElem?_append_left (List.getElem?_eq_some_iff.1 hi).1]; exact hi) (fun i j _ _ h => h)
end
theorem splits {α : Type} {W : List α} {n m : Nat} (h : n + m <= W.length) : ∃ Y Z1 Z2, W = Y ++ Z1 ++ Z2 /\ Y.length = n /\ Z1.length = m :=
 ⟨W.take n, (W.drop n).take m, (W.drop n).drop m, by rw [List.append_assoc, List.take_append_drop, List.take_append_drop], by simp; omega, by simp; omega⟩
theorem slA {m l sz g : Nat} (h : m ≠ l) : slAddr m l sz (some ⟨g, 0, none⟩) = some ⟨g, l * sz, none⟩ := by
 unfold slAddr; rw [if_neg h]; simp [add_mk]
theorem slA0 {m sz : Nat} (a : Option Addr) : slAddr m 0 sz a = a := by
 unfold slAddr
 split
 ·rfl
 ·cases a <;> simp [add_zero]
theorem cat (a b : List Value) : ∀ (j : Nat) (u : Value), b[j]? = some u -> (a ++ b)[a.length + j]? = some u := fun j u h => by
 rw [List.getElem?_append_right (by omega), Nat.add_sub_cancel_left]; exact h
section
variable {A0 : Nat -> Prop} {M : List Nat} {w0 w w' : World} {R : List Res} {P : World -> Prop}
theorem keepB1 {b : Nat} {T : TypeId} {cs : Array Value} (h : Blk w b T cs) (h' : Blk w' b T cs) : KeepsB (fun x => x = b) w w' := fun p u hp hc =>
 (World.cell?_of_block (w := w) (by rw [hp]; exact h'.trans h.symm)).trans hc
theorem keepB2 {S S' : Nat -> Prop} (h : KeepsB S w w') (h' : KeepsB S' w w') : KeepsB (fun x => S x \/ S' x) w w' := fun p u hp hc => hp.elim (fun q => h p u q hc) (fun q => h' p u q hc)
end
end Go.Sx
namespace Go.Sx
structure Lk where
 bits : Int
 every : Int
 poll : Int
 wait : Int
 quiet : Int
 tries : Int
deriving DecidableEq
structure Un where
 sn : Int
 data : List Int
 sent : Int
 tries : Int
 again : List Rg
deriving DecidableEq
structure Sd where
 lk : Lk
 first : Int
 next : Int
 units : List Un
 pieces : Int
 poll : Int
 left : Int
 failed : Bool
deriving DecidableEq
def Sd.zero : Sd := ⟨⟨0, 0, 0, 0, 0, 0⟩, 0, 0, [], 0, 0, 0, false⟩
def lkOk (l : Lk) : Prop := bitsOk l.bits /\ (1 <= l.every /\ l.every <= 64) /\ (1 <= l.poll /\ l.poll <= 1000) /\ (1 <= l.wait /\ l.wait <= 1000) /\ (0 <= l.quiet /\ l.quiet <= 1000) /\ (1 <= l.tries /\ l.tries <= 32)
instance (l : Lk) : Decidable (lkOk l) := inferInstanceAs (Decidable (_ /\ _))
def snOk (b n : Int) : Prop := 0 <= n /\ n < 2 ^ b.toNat
instance (b n : Int) : Decidable (snOk b n) := inferInstanceAs (Decidable (_ /\ _))
def wholeU (u : Un) : Prop := u.sent = u.data.length
instance (u : Un) : Decidable (wholeU u) := inferInstanceAs (Decidable (_ = _))
def unNum (l : Lk) (u : Un) : Prop := snOk l.bits u.sn /\ (1 <= u.data.length /\ u.data.length <= 2054) /\ (0 <= u.sent /\ u.sent <= u.data.length) /\ (0 <= u.tries /\ u.tries <= l.tries)
instance (l : Lk) (u : Un) : Decidable (unNum l u) := inferInstanceAs (Decidable (_ /\ _))
def offR (u : Un) (r : Rg) : Bool := decide (r.sn ≠ u.sn \/ u.sent < r.t)
def unB (l : Lk) (u : Un) : Bool := decide (unNum l u) && normB (-1) u.again && !u.again.any (offR u)
def Sd.place (s : Sd) (n : Int) : Int := way s.lk.bits s.first n
def behindB (s : Sd) (v u : Un) : Bool := decide (s.place v.sn < s.place u.sn) && (decide (wholeU v) || decide (u.sent <= 0))
def unitsFrom (s : Sd) : Option Un -> List Un -> Bool
 | _, [] => true
 | p, u :: l => unB s.lk u && decide (s.place u.sn < s.place s.next) && (match p with | none => true | some v => behindB s v u) && unitsFrom s (some u) l
def prevU (l : List Un) : Nat -> Option Un
 | 0 => none
 | k + 1 => l[k]?
theorem unitsFrom_drop (s : Sd) (l : List Un) (k : Nat) (h : k < l.length) : unitsFrom s (prevU l k) (l.drop k) =
 (unB s.lk l[k] && decide (s.place l[k].sn < s.place s.next) && (match prevU l k with | none => true | some v => behindB s v l[k]) && unitsFrom s (prevU l (k + 1)) (l.drop (k + 1))) := by
 rw [List.drop_eq_getElem_cons h]
 simp only [unitsFrom, prevU, List.getElem?_eq_getElem h]
def unitsB (s : Sd) : Bool := match s.units with
 | [] => decide (s.next = s.first)
 | u :: l => decide (u.sn = s.first) && unitsFrom s none (u :: l)
def askedB (s : Sd) : Bool := s.units.any fun u => decide (u.sn = s.poll /\ 0 < u.sent)
def Sd.okB (s : Sd) : Bool :=
 decide (lkOk s.lk /\ snOk s.lk.bits s.first /\ snOk s.lk.bits s.next /\ s.place s.next <= 2 ^ (s.lk.bits - 1).toNat) && unitsB s && decide (0 <= s.pieces /\ s.pieces <= s.lk.every - 1) &&
 if s.poll = -1 then decide (s.left = 0) else askedB s && decide (1 <= s.left /\ s.left <= s.lk.poll)

def idx {α : Type} (p : α -> Bool) (l : List α) : Int := match l.findIdx? p with | some i => (i : Int) | none => -1
theorem idx_at {α : Type} {p : α -> Bool} {l : List α} {k : Nat} (hk : k < l.length) (h : ∀ j (hj : j < l.length), j < k -> p l[j] = false) (hp : p l[k] = true) : idx p l = k := by
 have : l.findIdx? p = some k := List.findIdx?_eq_some_iff_getElem.2 ⟨hk, hp, fun j hj => by simp [h j (by omega) hj]⟩
 rw [idx, this]
theorem idx_no {α : Type} {p : α -> Bool} {l : List α} (h : ∀ j (hj : j < l.length), p l[j] = false) : idx p l = -1 := by
 have : l.findIdx? p = none := List.findIdx?_eq_none_iff.2 fun x hx => by
  obtain ⟨j, hj, rfl⟩ := List.getElem_of_mem hx
  exact h j hj
 rw [idx, this]
theorem idx_any {α : Type} (p : α -> Bool) (l : List α) : decide (idx p l >= 0) = l.any p := by
 unfold idx
 cases h : l.findIdx? p with
 | none =>
  rw [List.findIdx?_eq_none_iff] at h
  symm; simp [List.any_eq_false]; exact fun x hx => by simpa using h x hx
 | some i =>
  obtain ⟨hi, hp, _⟩ := List.findIdx?_eq_some_iff_getElem.1 h
  have : l.any p = true := List.any_eq_true.2 ⟨l[i], List.getElem_mem hi, hp⟩
  rw [this]; simp
end Go.Sx
namespace Go.Sx
open Go.RowKit
theorem lq {w : World} {b o j : Nat} {vs : List Value} {v : Value} (h : cellsAt w ⟨b, o, none⟩ 0 vs) (hv : vs[j]? = some v) : w.cell? ⟨b, o + j, none⟩ = some v := by
 have := cellsAt_get h j _ hv; rwa [Nat.zero_add, add_mk] at this
end Go.Sx
namespace Go.Proofs.YtmbppohkadmjgaaGreat
open Go.Sx Go.RowKit
set_option maxRecDepth 100000

def encL (l : Lk) : List Value := [.int .i64 l.bits, .int .i64 l.every, .int .i64 l.poll, .int .i64 l.wait, .int .i64 l.quiet, .int .i64 l.tries]
theorem cells_below {w w' : World} {p : Addr} {vs : List Value} (h : cellsAt w p 0 vs) (hb : Below w.heap.size w w') : cellsAt w' p 0 vs := cellsAt_keep (fun _ _ hp _ => hb.get hp) h
theorem cells_lt {w : World} {b o : Nat} {v : Value} {vs : List Value} (h : cellsAt w ⟨b, o, none⟩ 0 (v :: vs)) : b < w.heap.size := cell_lt (p := ⟨b, o, none⟩) (lq (j := 0) h rfl)
theorem sender_between_ct {x least most : Int} {w : World} :
 Calls Tryz.prog N_sender_between #[(.int .i64 x), (.int .i64 least), (.int .i64 most)] w fun e w' => e = .returned (.bool (decide (least <= x /\ x <= most))) /\ Below w.heap.size w w' := by
 apply F_sender_between_ok
 unfold F_sender_between
 have H := St.nil w
 refine bsplit_dec (fun c => ?_) (fun c => ?_)
 ·refine kLet_in ?_
  exact ⟨retD (by omega), H.below⟩
 ·exact ⟨retF (by omega), H.below⟩

section
variable {l : Lk} {w : World}
theorem sender_ValidLink_ct :
 Calls Tryz.prog N_sender_ValidLink #[(.agg #[.int .i64 l.bits, .int .i64 l.every, .int .i64 l.poll, .int .i64 l.wait, .int .i64 l.quiet, .int .i64 l.tries])] w fun e w' => e = .returned (.bool (decide (lkOk l))) /\ Below w.heap.size w w' := by
 apply F_sender_ValidLink_ok
 unfold F_sender_ValidLink
 have H := St.nil w
 refine H.alloc ?_; clear H; intro b w1 H1
 simp only [List.nil_append] at H1
 refine ⟨fun times w5 => St (fun _ => False) [] w w5 [.blk b Ty_api_Link [(.int .i64 l.bits), (.int .i64 l.every), (.int .i64 l.poll), (.int .i64 l.wait), (.int .i64 l.quiet), (.int .i64 l.tries)]] (fun _ => True) /\ (times = true ↔ (1 <= l.poll /\ l.poll <= 1000) /\ (1 <= l.wait /\ l.wait <= 1000) /\ (0 <= l.quiet /\ l.quiet <= 1000)), ?_, ?_⟩
 ·rintro _ times w5 ⟨H5, hj⟩
  refine H5.ld (i := 0) rfl rfl ?_
  refine counter_Bits_ct.mono ?_
  rintro _ w6 ⟨rfl, hb6⟩; have H6 := H5.pass hb6; clear H5
  refine ⟨_, rfl, ?_⟩
  refine bsplit_dec (fun c4 => ?_) (fun c4 => ?_)
  ·refine H6.ld (i := 0) rfl rfl ?_
   refine sender_between_ct.mono ?_
   rintro _ w7 ⟨rfl, hb7⟩; have H7 := H6.pass hb7; clear H6
   refine ⟨_, rfl, ?_⟩
   refine bsplit_dec (fun c3 => ?_) (fun c3 => ?_)
   ·refine bsplit_intro (fun c2 => ?_) (fun c2 => ?_)
    ·refine H7.ld (i := 0) rfl rfl ?_
     refine sender_between_ct.mono ?_
     rintro _ w8 ⟨rfl, hb8⟩; have H8 := H7.pass hb8; clear H7
     refine ⟨_, rfl, ?_⟩
     have := hj.1 c2
     exact ⟨retD ⟨fun h => ⟨c4, c3, this.1, this.2.1, this.2.2, h⟩, fun h => h.2.2.2.2.2⟩, H8.below⟩
    ·exact ⟨retF (fun h => by rw [hj.2 ⟨h.2.2.1, h.2.2.2.1, h.2.2.2.2.1⟩] at c2; cases c2), H7.below⟩
   ·exact ⟨retF (fun h => c3 h.2.1), H7.below⟩
  ·exact ⟨retF (fun h => c4 h.1), H6.below⟩
 ·refine H1.ld (i := 0) rfl rfl ?_
  refine sender_between_ct.mono ?_
  rintro _ w2 ⟨rfl, hb2⟩; have H2 := H1.pass hb2; clear H1
  refine ⟨_, rfl, ?_⟩
  refine bsplit_dec (fun c1 => ?_) (fun c1 => ?_)
  ·refine H2.ld (i := 0) rfl rfl ?_
   refine sender_between_ct.mono ?_
   rintro _ w3 ⟨rfl, hb3⟩; have H3 := H2.pass hb3; clear H2
   refine ⟨_, rfl, ?_⟩
   refine bsplit_dec (fun c => ?_) (fun c => ?_)
   ·refine H3.ld (i := 0) rfl rfl ?_
    refine sender_between_ct.mono ?_
    rintro _ w4 ⟨rfl, hb4⟩; have H4 := H3.pass hb4; clear H3
    refine ⟨_, rfl, ?_⟩
    exact ⟨H4, by rw [decide_eq_true_iff]; omega⟩
   ·exact ⟨H3, by simp only [Bool.false_eq_true, false_iff]; omega⟩
  ·exact ⟨H2, by simp only [Bool.false_eq_true, false_iff]; omega⟩
end

end Go.Proofs.YtmbppohkadmjgaaGreat
namespace Go.Sx
structure Pa where
 sn : Int
 done : Bool
 len : Int
 data : List Int
 come : List Rg
deriving DecidableEq
structure Rc where
 lk : Lk
 first : Int
 next : Int
 upto : Int
 mark : Int
 left : Int
 quiet : Int
 due : Bool
 parts : List Pa
deriving DecidableEq
def Rc.zero : Rc := ⟨⟨0, 0, 0, 0, 0, 0⟩, 0, 0, 0, 0, 0, 0, false, []⟩
def Rc.place (s : Rc) (n : Int) : Int := way s.lk.bits s.first n
def Rc.behind (s : Rc) (n : Int) : Int := (n + 1) % 2 ^ s.lk.bits.toNat
def endT (l : List Rg) : Int := lastT 0 l
def compB (p : Pa) : Bool := match p.come with
 | [r] => decide (0 < p.len /\ r.f = 0 /\ r.t = p.len)
 | _ => false
def zeroB (p : Pa) : Bool := (gapsS p.sn p.come 0 p.data.length).all fun g => ((p.data.drop g.f.toNat).take (g.t.toNat - g.f.toNat)).all fun c => decide (c = 0)
def paNum (p : Pa) : Prop := (p.len = -1 \/ (1 <= p.len /\ p.len <= 2054 /\ (p.data.length : Int) <= p.len)) /\ p.come ≠ [] /\ normB (-1) p.come = true /\ (∀ r ∈ p.come, r.sn = p.sn) /\ (p.data.length : Int) = endT p.come /\ p.data.length <= 2054 /\ compB p = false
instance (p : Pa) : Decidable (paNum p) := inferInstanceAs (Decidable (_ /\ _))
def paB (p : Pa) : Bool := if p.done then decide (p.len = 0 /\ p.data = [] /\ p.come = []) else decide (paNum p) && zeroB p
def paAt (s : Rc) (last : Int) (p : Pa) : Bool := decide (snOk s.lk.bits p.sn /\ last < s.place p.sn /\ s.place p.sn < s.place s.next) && (!p.done || !decide (p.sn = s.first)) && paB p
def paFrom (s : Rc) (last : Int) : List Pa -> Bool
 | [] => decide (last = s.place s.next - 1)
 | p :: l => paAt s last p && paFrom s (s.place p.sn) l
def lastP (s : Rc) (l : List Pa) : Nat -> Int
 | 0 => -1
 | k + 1 => ((l[k]?).map fun p => s.place p.sn).getD (-1)
theorem lastP_succ {s : Rc} {l : List Pa} {k : Nat} (h : k < l.length) : lastP s l (k + 1) = s.place l[k].sn := by
 simp [lastP, List.getElem?_eq_getElem h]
theorem paFrom_drop (s : Rc) (l : List Pa) (k : Nat) (last : Int) (h : k < l.length) : paFrom s last (l.drop k) = (paAt s last l[k] && paFrom s (lastP s l (k + 1)) (l.drop (k + 1))) := by
 rw [List.drop_eq_getElem_cons h, lastP_succ h]; rfl
def markB (s : Rc) : Bool := if s.mark = -1 then decide (s.left = 0) else decide (snOk s.lk.bits s.mark /\ 1 <= s.place s.mark /\ s.place s.mark <= s.place s.next /\ 1 <= s.left /\ s.left <= s.lk.wait)
def headB (s : Rc) : Bool := decide (lkOk s.lk /\ snOk s.lk.bits s.first /\ snOk s.lk.bits s.next /\ snOk s.lk.bits s.upto /\ s.place s.next <= 2 ^ (s.lk.bits - 1).toNat /\ s.place s.upto <= s.place s.next /\ 0 <= s.quiet /\ s.quiet <= s.lk.quiet)
def Rc.okB (s : Rc) : Bool := headB s && paFrom s (-1) s.parts && markB s
def newRc (l : Lk) : Rc × Int := if lkOk l then (⟨l, 0, 0, 0, -1, 0, 0, false, []⟩, 0) else (.zero, 3)
def start1 (s : Rc) : Rc := if s.mark ≠ -1 /\ (s.place s.mark = 0 \/ s.place s.mark > s.place s.next) then { s with mark := -1, left := 0 } else s
def start2 (t : Rc) : Rc := if t.mark = -1 /\ t.first ≠ t.next then { t with mark := t.next, left := t.lk.wait } else t
def startR (s : Rc) : Rc := start2 (start1 s)
theorem startR_same (s : Rc) : (startR s).parts = s.parts /\ (startR s).lk = s.lk /\ (startR s).first = s.first /\ (startR s).next = s.next /\ (startR s).upto = s.upto /\ (startR s).quiet = s.quiet /\ (startR s).due = s.due := by
 unfold startR start2
 have h : (start1 s).parts = s.parts /\ (start1 s).lk = s.lk /\ (start1 s).first = s.first /\ (start1 s).next = s.next /\ (start1 s).upto = s.upto /\ (start1 s).quiet = s.quiet /\ (start1 s).due = s.due := by
  unfold start1; split <;> exact ⟨rfl, rfl, rfl, rfl, rfl, rfl, rfl⟩
 split
 ·exact h
 ·exact h
def pollR (s : Rc) (p : Pc) : Rc := if p.poll = 1 then { s with due := true, upto := s.next } else s
def Pc.en (p : Pc) : Int := p.off + p.data.length
def contraB (x : Pa) (p : Pc) : Bool := if ends p.part = true then decide (x.len ≠ -1 /\ x.len ≠ p.en \/ p.en < endT x.come) else decide (x.len ≠ -1 /\ x.len <= p.en)
def hasB (x : Pa) (p : Pc) : Bool := x.come.any (fun r => decide (r.f <= p.off /\ p.en <= r.t)) && (!ends p.part || !decide (x.len = -1))
def layD (d : List Int) (o : Nat) (b : List Int) : List Int :=
 let d' := d ++ List.replicate (o + b.length - d.length) 0
 d'.take o ++ b ++ d'.drop (o + b.length)
theorem layD_len (d : List Int) (o : Nat) (b : List Int) : (layD d o b).length = max d.length (o + b.length) := by
 simp only [layD, List.length_append, List.length_take, List.length_drop, List.length_replicate]; omega
def mergeS (x : Pa) (p : Pc) : Pa := { x with data := layD x.data p.off.toNat p.data, come := unionS p.sn x.come p.off p.en, len := if ends p.part = true then p.en else x.len }
def atP (s : Rc) (n : Int) : Nat := (s.parts.takeWhile fun p => decide (s.place p.sn < s.place n)).length
def foundB (s : Rc) (n : Int) : Bool := match s.parts[atP s n]? with
 | some x => decide (x.sn = n)
 | none => false
def refusedS (s : Rc) (p : Pc) : Int :=
 if s.place p.sn >= 2 ^ (s.lk.bits - 1).toNat then 11 else match s.parts[atP s p.sn]? with
  | some x => if x.sn = p.sn then if x.done then 12 else if contraB x p then 4 else if hasB x p then 12 else 0 else 0
  | none => 0
def newPa (n : Int) : Pa := ⟨n, false, -1, [], []⟩
def donePa (n : Int) : Pa := ⟨n, true, 0, [], []⟩
def insS (s : Rc) (p : Pc) : List Pa := if foundB s p.sn then s.parts else s.parts.take (atP s p.sn) ++ newPa p.sn :: s.parts.drop (atP s p.sn)
def mergedS (s : Rc) (p : Pc) : Pa := mergeS (((insS s p)[atP s p.sn]?).getD (newPa p.sn)) p
def unitS (s : Rc) (p : Pc) : List Int := if compB (mergedS s p) then (mergedS s p).data else []
def putP (s : Rc) (p : Pc) : Rc :=
 { s with parts := (insS s p).set (atP s p.sn) (if compB (mergedS s p) then donePa p.sn else mergedS s p), next := if s.place p.sn >= s.place s.next then s.behind p.sn else s.next }
def dropS (b : Int) : Int -> List Pa -> Int × List Pa
 | f, [] => (f, [])
 | f, p :: l => if p.sn = f /\ p.done = true then dropS b ((f + 1) % 2 ^ b.toNat) l else (f, p :: l)
def adv1 (s : Rc) : Rc := { s with first := (dropS s.lk.bits s.first s.parts).1, parts := (dropS s.lk.bits s.first s.parts).2 }
def adv2 (t : Rc) : Rc := if t.place t.upto > t.place t.next then { t with upto := t.first } else t
def advS (s : Rc) : Rc := adv2 (adv1 s)
def recS (s : Rc) (bs : List Int) : Rc × List Int × Int :=
 if s.okB = false then (.zero, [], 1) else
 let q := decP s.lk.bits bs
 if q.2 ≠ 0 then (s, [], q.2) else
 if refusedS s q.1 ≠ 0 then (pollR s q.1, [], refusedS s q.1) else
 (pollR (startR (advS (putP s q.1))) q.1, unitS s q.1, 0)
def tick1 (s : Rc) : Rc := { s with quiet := if s.quiet - 1 > 0 then s.quiet - 1 else 0 }
def tick2 (u : Rc) : Rc := if u.left > 0 then u else startR { u with upto := if u.place u.mark > u.place u.upto then u.mark else u.upto, due := true, mark := -1 }
def tickRc (s : Rc) : Rc × Int :=
 if s.okB = false then (.zero, 1) else (if s.left = 0 then tick1 s else tick2 { tick1 s with left := s.left - 1 }, 0)
theorem tick2_parts (u : Rc) : (tick2 u).parts = u.parts := by
 unfold tick2; split
 ·rfl
 ·exact (startR_same _).1
def missO (n : Int) : Option Pa -> List Rg
 | none => [⟨n, 0, 0⟩]
 | some p => if p.done then [] else gapsS n p.come 0 (if p.len = -1 then 65535 else p.len)
def missP (s : Rc) (n : Int) : List Rg := missO n (if idx (fun p => decide (p.sn = n)) s.parts < 0 then none else s.parts[(idx (fun p => decide (p.sn = n)) s.parts).toNat]?)
theorem idx_or {α : Type} (p : α -> Bool) (l : List α) : (idx p l = -1 /\ ∀ x ∈ l, p x = false) \/ ∃ k, ∃ h : k < l.length, idx p l = k /\ p l[k] = true := by
 unfold idx
 cases h : l.findIdx? p with
 | none =>
  rw [List.findIdx?_eq_none_iff] at h
  exact .inl ⟨rfl, fun x hx => by simpa using h x hx⟩
 | some i =>
  obtain ⟨hi, hp, _⟩ := List.findIdx?_eq_some_iff_getElem.1 h
  exact .inr ⟨i, hi, rfl, hp⟩
def statS (s : Rc) : Nat -> Int -> List Rg -> Stt
 | 0, _, out => ⟨s.upto, out⟩
 | k + 1, n, out => if out.length + (missP s n).length > 64 then ⟨n, out⟩ else statS s k (s.behind n) (out ++ missP s n)
def statR (s : Rc) : Stt × Int := if s.okB = false then (.zero, 1) else (statS s (s.place s.upto).toNat s.first [], 0)
def repR (s : Rc) (size : Int) : Rc × List Int × Int :=
 if s.okB = false then (.zero, [], 1) else if size < 0 \/ size > 4096 then (.zero, [], 3) else if s.due = false \/ s.quiet > 0 then (.zero, [], 14) else
 let x := fitR s.lk.bits (statR s).1 size
 if x.2 ≠ 0 then (.zero, [], x.2) else ({ s with due := false, quiet := s.lk.quiet }, (encS s.lk.bits x.1).1, 0)
end Go.Sx
namespace Go.Sx
theorem norm_end : ∀ {l : List Rg} {p q : Int}, normB p l = true -> (∀ x ∈ l, x.t <= lastT q l) /\ (l ≠ [] -> ∃ x ∈ l, x.t = lastT q l)
 | [], p, q, _ => ⟨fun x hx => by simp at hx, fun h => absurd rfl h⟩
 | [y], p, q, _ => ⟨fun x hx => by simp at hx; subst hx; exact Int.le_refl _, fun _ => ⟨y, by simp, rfl⟩⟩
 | y :: z :: l, p, q, h => by
  rw [normB_cons] at h
  obtain ⟨h1, h2⟩ := norm_end (q := y.t) h.2
  have h3 := h.2
  rw [normB_cons] at h3
  refine ⟨fun x hx => ?_, fun _ => ?_⟩
  ·rcases List.mem_cons.1 hx with rfl | hx
   ·have := h1 z (by simp)
    show x.t <= lastT x.t (z :: l)
    omega
   ·exact h1 x hx
  ·obtain ⟨x, hx, e⟩ := h2 (by simp)
   exact ⟨x, by simp only [List.mem_cons] at hx ⊢; exact .inr hx, e⟩
theorem cov_iff {k : Int} {l : List Rg} : covB k l = true ↔ ∃ r ∈ l, r.f <= k /\ k < r.t := by simp [covB]
theorem end_union {sn f t : Int} {l : List Rg} (h : normB (-1) l = true) (hf : 0 <= f) (ht : f < t) : endT (unionS sn l f t) = max (endT l) t := by
 have hn := union_norm sn l (-1) f t h (by omega) ht
 have hne : unionS sn l f t ≠ [] := by
  intro e
  have := union_cov sn f l f t ht fun x hx => (norm_lt l _ h x hx).2
  rw [e] at this
  simp [covB, ht] at this
 obtain ⟨a1, a2⟩ := norm_end (q := 0) hn
 obtain ⟨b1, b2⟩ := norm_end (q := 0) h
 have hm : ∀ x ∈ unionS sn l f t, x.t <= max (endT l) t := union_le sn l f t _ (fun x hx => by have := b1 x hx; unfold endT; omega) (by omega)
 obtain ⟨y, hy, e⟩ := a2 hne
 have h1 := hm y hy
 have h2 : max (endT l) t <= endT (unionS sn l f t) := by
  have hc : covB (max (endT l) t - 1) (unionS sn l f t) = true := by
   rw [union_cov sn _ l f t ht fun x hx => (norm_lt l _ h x hx).2]
   rcases Int.lt_or_le t (endT l) with h3 | h3
   ·have hl : l ≠ [] := by
     rintro rfl
     simp only [endT, lastT] at h3; omega
    obtain ⟨x, hx, e2⟩ := b2 hl
    have : covB (max (endT l) t - 1) l = true := cov_iff.2 ⟨x, hx, by
     have := (norm_lt l _ h x hx).2
     unfold endT at h3 ⊢; omega, by unfold endT at h3 ⊢; omega⟩
    rw [this]; simp
   ·have : decide (f <= max (endT l) t - 1 /\ max (endT l) t - 1 < t) = true := decide_eq_true (by omega)
    rw [this]; rfl
  obtain ⟨z, hz, hz1, hz2⟩ := cov_iff.1 hc
  have := a1 z hz
  unfold endT at *; omega
 unfold endT at *; omega
theorem normB_len : ∀ {l : List Rg} {p m : Int}, normB p l = true -> (∀ r ∈ l, r.t <= m) -> l = [] \/ p + l.length <= m
 | [], _, _, _, _ => .inl rfl
 | x :: l, p, m, h, hm => by
  simp only [normB, Bool.and_eq_true, decide_eq_true_eq] at h
  have h1 := hm x (by simp)
  right
  rcases normB_len h.2 (fun r hr => hm r (by simp [hr])) with rfl | h2
  ·simp; omega
  ·simp; omega
theorem end_at {l : List Rg} (h : l.length - 1 < l.length) : endT l = l[l.length - 1].t := by
 have e : l = l.take (l.length - 1) ++ [l[l.length - 1]] := by
  rw [<- List.take_succ_eq_append_getElem h, List.take_of_length_le (by omega)]
 exact (congrArg (lastT 0) e).trans (lastT_snoc _ _ _)
theorem norm_ge : ∀ {l : List Rg} {p : Int}, normB p l = true -> 0 <= p + 1 -> 0 <= endT l
 | [], _, _, _ => Int.le_refl _
 | x :: l, p, h, hp => by
  obtain ⟨y, hy, e⟩ := (norm_end (q := 0) h).2 (by simp)
  have := norm_lt _ _ h y hy
  unfold endT; omega
theorem gapR_at {l : List Rg} {sn m : Int} (h : normB (-1) l = true) (hm : endT l <= m) (h0 : 0 <= m) : gapR l sn m = (gapsS sn l 0 m, 0) := by
 unfold gapR
 rw [if_neg (by rw [h]; decide), if_neg]
 rintro (h1 | ⟨h1, h2⟩)
 ·omega
 ·have hl : l.length - 1 < l.length := by omega
  have e : prevT l l.length = endT l := by
   rw [end_at hl]
   obtain ⟨n, hn⟩ : ∃ n, l.length = n + 1 := ⟨l.length - 1, by omega⟩
   have e2 : ∀ m, m = n + 1 -> ∀ hm : m - 1 < l.length, prevT l m = l[m - 1].t := by
    rintro _ rfl hm
    rw [prevT_succ (by omega)]; rfl
   exact e2 _ hn _
  omega
theorem paNum_len {x : Pa} (h : paNum x) : x.come.length <= 2055 := by
 obtain ⟨_, _, hn, _, he, hd, _⟩ := h
 have h1 := (norm_end (q := 0) hn).1
 rcases normB_len (m := 2054) hn (fun r hr => by have := h1 r hr; unfold endT at he; omega) with h | h
 ·rw [h]; simp
 ·omega
theorem layD_get (d : List Int) (o : Nat) (b : List Int) (k : Nat) : (layD d o b).getD k 0 = if o <= k /\ k < o + b.length then b.getD (k - o) 0 else d.getD k 0 := by
 have e1 : ∀ j, (d ++ List.replicate (o + b.length - d.length) (0 : Int)).getD j 0 = d.getD j 0 := fun j => by
  simp only [List.getD_eq_getElem?_getD]
  rcases Nat.lt_or_ge j d.length with h | h
  ·rw [List.getElem?_append_left h]
  ·rw [List.getElem?_append_right h, List.getElem?_eq_none h, List.getElem?_replicate]
   split <;> rfl
 have hl : o <= (d ++ List.replicate (o + b.length - d.length) (0 : Int)).length := by simp; omega
 have hp : layD d o b = (d ++ List.replicate (o + b.length - d.length) (0 : Int)).take o ++ b ++ (d ++ List.replicate (o + b.length - d.length) (0 : Int)).drop (o + b.length) := rfl
 rw [<- e1 k, hp]
 generalize d ++ List.replicate (o + b.length - d.length) (0 : Int) = d' at hl
 simp only [List.getD_eq_getElem?_getD]
 by_cases h1 : k < o
 ·rw [if_neg (by omega), List.append_assoc, List.getElem?_append_left (by simp; omega), List.getElem?_take, if_pos h1]
 ·by_cases h2 : k < o + b.length
  ·rw [if_pos (by omega), List.append_assoc, List.getElem?_append_right (by simp; omega), List.getElem?_append_left (by simp; omega), List.length_take, Nat.min_eq_left hl]
  ·rw [if_neg (by omega), List.append_assoc, List.getElem?_append_right (by simp; omega), List.getElem?_append_right (by simp; omega), List.getElem?_drop, List.length_take, Nat.min_eq_left hl]
   congr 2; omega
def Rc.num (s : Rc) (j : Nat) : Int := (s.first + j) % 2 ^ s.lk.bits.toNat
theorem num_zero {s : Rc} (hf : snOk s.lk.bits s.first) : s.num 0 = s.first := by
 unfold Rc.num snOk at *
 rw [Int.emod_eq_of_lt (by omega) (by omega)]; omega
theorem num_ok {s : Rc} (hb : bitsOk s.lk.bits) (j : Nat) : snOk s.lk.bits (s.num j) := by
 unfold Rc.num snOk
 rcases pow_bits hb with h | h | h | h | h <;> rw [h] <;> omega
theorem num_place {s : Rc} (hb : bitsOk s.lk.bits) (hf : snOk s.lk.bits s.first) {j : Nat} (hj : (j : Int) < 2 ^ s.lk.bits.toNat) : s.place (s.num j) = j := by
 unfold Rc.num Rc.place way snOk at *
 rcases pow_bits hb with h | h | h | h | h <;> rw [h] at hj hf ⊢ <;> omega
theorem num_succ {s : Rc} (hb : bitsOk s.lk.bits) (j : Nat) : s.behind (s.num j) = s.num (j + 1) := by
 unfold Rc.num Rc.behind
 rcases pow_bits hb with h | h | h | h | h <;> rw [h] <;> omega
theorem place_inj {s : Rc} {x y : Int} (hb : bitsOk s.lk.bits) (hx : snOk s.lk.bits x) (hy : snOk s.lk.bits y) (h : s.place x = s.place y) : x = y := by
 unfold Rc.place way snOk at *
 rcases pow_bits hb with e | e | e | e | e <;> rw [e] at hx hy h <;> omega
theorem missO_len {n : Int} {o : Option Pa} (h : ∀ x, o = some x -> x.come.length <= 3000) : (missO n o).length <= 3001 := by
 have gl : ∀ (sn m : Int) (l : List Rg) (p : Int), (gapsS sn l p m).length <= l.length + 1 := by
  intro sn m l
  induction l with
  | nil => intro p; unfold gapsS; split <;> simp
  | cons x l ih => intro p; unfold gapsS; have := ih x.t; split <;> simp <;> omega
 unfold missO
 split
 ·simp
 ·rename_i x
  split
  ·simp
  ·have := gl n (if x.len = -1 then 65535 else x.len) x.come 0
   have := h x rfl
   omega
theorem missP_len {s : Rc} {n : Int} (h : ∀ x ∈ s.parts, x.come.length <= 3000) : (missP s n).length <= 3001 := by
 refine missO_len fun x hx => ?_
 split at hx
 ·cases hx
 ·exact h x (List.mem_of_getElem? hx)
end Go.Sx
namespace Go.Proofs.YtmbppohkadmjgaaGreat
open Go.Sx Go.RowKit
set_option maxRecDepth 100000
def encPa (x : Pa) (a : Option Addr) (c : Nat) (a2 : Option Addr) (c2 : Nat) : List Value := [.int .i64 x.sn, .bool x.done, .int .i64 x.len, .slice a x.data.length c, .slice a2 x.come.length c2]
abbrev aggPa (x : Pa) (a : Option Addr) (c : Nat) (a2 : Option Addr) (c2 : Nat) : Value := .agg #[.int .i64 x.sn, .bool x.done, .int .i64 x.len, .slice a x.data.length c, .slice a2 x.come.length c2]
def PaC (w : World) (p : Addr) (x : Pa) : Prop := ∃ a c a2 c2, cellsAt w p 0 (encPa x a c a2 c2) /\ SlR (IntC .u8) 1 w a x.data /\ SlR (CE encR) 3 w a2 x.come /\ x.data.length <= c
abbrev PaR (w : World) (a : Option Addr) (L : List Pa) : Prop := SlR PaC 5 w a L
def encRc (s : Rc) (a : Option Addr) (c : Nat) : List Value :=
 [.int .i64 s.lk.bits, .int .i64 s.lk.every, .int .i64 s.lk.poll, .int .i64 s.lk.wait, .int .i64 s.lk.quiet, .int .i64 s.lk.tries, .int .i64 s.first, .int .i64 s.next, .int .i64 s.upto, .int .i64 s.mark, .int .i64 s.left, .int .i64 s.quiet, .bool s.due, .slice a s.parts.length c]
abbrev aggRc (s : Rc) (a : Option Addr) (c : Nat) : Value :=
 .agg #[.int .i64 s.lk.bits, .int .i64 s.lk.every, .int .i64 s.lk.poll, .int .i64 s.lk.wait, .int .i64 s.lk.quiet, .int .i64 s.lk.tries, .int .i64 s.first, .int .i64 s.next, .int .i64 s.upto, .int .i64 s.mark, .int .i64 s.left, .int .i64 s.quiet, .bool s.due, .slice a s.parts.length c]
theorem PaC.keep {w w' : World} {p : Addr} {x : Pa} (h : PaC w p x) (hb : Below w.heap.size w w') : PaC w' p x := by
 obtain ⟨a, c, a2, c2, h1, h2, h3, h4⟩ := h
 exact ⟨a, c, a2, c2, cellsAt_keep (fun _ _ hp _ => hb.get hp) h1, h2.below hb, h3.belowE hb, h4⟩
theorem paR_below {w w' : World} {a : Option Addr} {L : List Pa} (h : PaR w a L) (hb : Below w.heap.size w w') : PaR w' a L := by
 rcases h with rfl | ⟨b, rfl, h⟩
 ·exact .inl rfl
 ·exact .inr ⟨b, rfl, fun i hi => (h i hi).keep hb⟩
theorem ixPa {w : World} {a : Option Addr} {L : List Pa} (hs : PaR w a L) (i : Nat) {j : Int} (hj : j = i) (hi : i < L.length) {F : Addr -> Prop}
 (h : ∀ b, PaC w (b.add (j.toNat * 5)) L[i] -> F b) : kIx a L.length j F :=
 ixE hs i hj hi fun b x hx hb => by
  rw [List.getElem?_eq_getElem hi] at hx; injection hx with hx; subst hx; exact h b hb
section
variable {s : Rc} {a : Option Addr} {c : Nat} {s_b s_o : Nat} {n : Int} {w : World}
theorem receiver_side_place_ct (hc : cellsAt w ⟨s_b, s_o, none⟩ 0 (encRc s a c)) (hb : bitsOk s.lk.bits) :
 Calls Tryz.prog N_receiver_side_place #[(.pointer (some ⟨s_b, s_o, none⟩)), (.int .i64 n)] w fun e w' => e = .returned (.int .i64 (s.place n)) /\ Below w.heap.size w w' := by
 apply F_receiver_side_place_ok
 unfold F_receiver_side_place
 have H := St.nil w
 refine H.drew ?_; clear H; intro w1 H1
 refine ⟨(· < w1.heap.size), ?_⟩
 refine ⟨_, lq (j := 0) (cells_below hc H1.below) rfl, ?_⟩
 refine ⟨_, lq (j := 6) (cells_below hc H1.below) rfl, ?_⟩
 refine serial_Distance_ct.mono ?_
 rintro _ w2 ⟨rfl, hb2⟩; have H2 := H1.pass hb2
 refine ⟨_, rfl, ?_⟩
 refine ⟨hb2.keeps, ?_⟩
 obtain ⟨hb1, hb3⟩ := hb
 exact ⟨by rw [if_pos (by omega)]; rfl, H2.below⟩
theorem receiver_side_behind_ct (hc : cellsAt w ⟨s_b, s_o, none⟩ 0 (encRc s a c)) (hb : bitsOk s.lk.bits) (hn : -1000000 <= n /\ n <= 1000000) :
 Calls Tryz.prog N_receiver_side_behind #[(.pointer (some ⟨s_b, s_o, none⟩)), (.int .i64 n)] w fun e w' => e = .returned (.int .i64 (s.behind n)) /\ Below w.heap.size w w' := by
 apply F_receiver_side_behind_ok
 unfold F_receiver_side_behind
 have H := St.nil w
 refine ⟨_, lq (j := 0) (cells_below hc H.below) rfl, ?_⟩
 refine kW_i64 (by omega) ?_
 refine serial_Low_ct.mono ?_
 rintro _ w1 ⟨rfl, hb1⟩; have H1 := H.pass hb1; clear H
 refine ⟨_, rfl, ?_⟩
 obtain ⟨hb1, hb3⟩ := hb
 exact ⟨by rw [if_pos (by omega)]; rfl, H1.below⟩
theorem receiver_side_number_ct (hc : cellsAt w ⟨s_b, s_o, none⟩ 0 (encRc s a c)) (hb : bitsOk s.lk.bits) :
 Calls Tryz.prog N_receiver_side_number #[(.pointer (some ⟨s_b, s_o, none⟩)), (.int .i64 n)] w fun e w' => e = .returned (.bool (decide (snOk s.lk.bits n))) /\ Below w.heap.size w w' := by
 apply F_receiver_side_number_ok
 unfold F_receiver_side_number
 have H := St.nil w
 have hp := pow_bits hb
 obtain ⟨hb1, hb3⟩ := hb
 refine bsplit_dec (fun c => ?_) (fun c => ?_)
 ·refine ⟨_, lq (j := 0) (cells_below hc H.below) rfl, ?_⟩
  refine ⟨by omega, ?_⟩
  refine kShl1 (by omega) ?_
  refine kLet_in ?_
  exact ⟨retD (by unfold snOk; omega), H.below⟩
 ·exact ⟨retF (by unfold snOk; omega), H.below⟩
end
section
variable {l_a : Option Addr} {l : List Rg} {l_c : Nat} {w : World}
theorem receiver_end_ct (hs : SlR (CE encR) 3 w l_a l) (hl : l.length <= 140737488355328) :
 Calls Tryz.prog N_receiver_end #[(.slice l_a l.length l_c)] w fun e w' => e = .returned (.int .i64 (endT l)) /\ Below w.heap.size w w' := by
 apply F_receiver_end_ok
 unfold F_receiver_end
 have H := St.nil w
 refine bsplit_dec (fun c => ?_) (fun c => ?_)
 ·obtain rfl : l = [] := List.eq_nil_of_length_eq_zero (by omega)
  exact ⟨rfl, H.below⟩
 ·refine kW_i64 (by omega) ?_
  have hlt : l.length - 1 < l.length := by omega
  refine ixE hs (l.length - 1) (by omega) hlt fun b r hr hb => ?_
  obtain rfl : l[l.length - 1] = r := by rw [List.getElem?_eq_getElem hlt] at hr; injection hr
  refine ⟨_, by have := cellsAt_get hb 2 _ rfl; rwa [Nat.zero_add] at this, ?_⟩
  refine ⟨?_, H.below⟩
  have e : l = l.take (l.length - 1) ++ [l[l.length - 1]] := by
   rw [<- List.take_succ_eq_append_getElem hlt, List.take_of_length_le (by omega)]
  have e2 : endT l = l[l.length - 1].t := by
   unfold endT
   exact (congrArg (lastT 0) e).trans (lastT_snoc _ _ _)
  rw [e2]
end
section
variable {x : Pa} {a a2 : Option Addr} {c c2 : Nat} {w : World}
theorem compB_iff {p : Pa} : compB p = true ↔ 0 < p.len /\ ∃ r, p.come = [r] /\ r.f = 0 /\ r.t = p.len := by
 unfold compB
 split
 ·rename_i r h
  simp only [decide_eq_true_eq, h, List.cons.injEq, and_true, exists_eq_left']
 ·rename_i h
  simp only [Bool.false_eq_true, false_iff]
  rintro ⟨_, r, h2, _⟩
  exact h r h2
theorem comp_no {p : Pa} (h : ¬ (0 < p.len /\ ∃ r, p.come = [r] /\ r.f = 0 /\ r.t = p.len)) : compB p = false := by
 rw [Bool.eq_false_iff]; exact fun h' => h (compB_iff.1 h')
theorem receiver_complete_ct (hu : SlR (CE encR) 3 w a2 x.come) :
 Calls Tryz.prog N_receiver_complete #[aggPa x a c a2 c2] w fun e w' => e = .returned (.bool (compB x)) /\ Below w.heap.size w w' := by
 apply F_receiver_complete_ok
 unfold F_receiver_complete
 have H := St.nil w
 refine H.alloc ?_; clear H; intro b w1 H1
 refine H1.drew ?_; clear H1; intro w2 H2
 refine H2.ld (i := 0) rfl rfl ?_
 refine bsplit_dec (fun c2 => ?_) (fun c2 => ?_)
 ·refine H2.ldS (i := 0) rfl rfl ?_
  refine bsplit_dec (fun c1 => ?_) (fun c1 => ?_)
  ·refine H2.ldS (i := 0) rfl rfl ?_
   have hlt : 0 < x.come.length := by omega
   refine ixE (hu.belowE H2.below) 0 rfl hlt fun b1 r hr hb1 => ?_
   obtain rfl : x.come[0] = r := by rw [List.getElem?_eq_getElem hlt] at hr; injection hr
   refine ⟨_, by have := cellsAt_get hb1 1 _ rfl; rwa [Nat.zero_add] at this, ?_⟩
   refine bsplit_dec (fun c => ?_) (fun c => ?_)
   ·refine H2.ldS (i := 0) rfl rfl ?_
    refine ixE (hu.belowE H2.below) 0 rfl hlt fun b2 r hr hb2 => ?_
    obtain rfl : x.come[0] = r := by rw [List.getElem?_eq_getElem hlt] at hr; injection hr
    refine ⟨_, by have := cellsAt_get hb2 2 _ rfl; rwa [Nat.zero_add] at this, ?_⟩
    refine H2.ld (i := 0) rfl rfl ?_
    refine kLet_in ?_
    have h1 : x.come = [x.come[0]] := by
     apply List.ext_getElem (by simp; omega)
     intro i h1 h2
     obtain rfl : i = 0 := by omega
     rfl
    refine ⟨?_, H2.below⟩
    have e : compB x = decide (x.come[0].t = x.len) := by
     rw [Bool.eq_iff_iff, compB_iff, decide_eq_true_iff]
     constructor
     ·rintro ⟨_, r, h2, _, h3⟩
      have : x.come[0] = r := by simp [h2]
      rw [this]; exact h3
     ·intro h; exact ⟨c2, _, h1, by omega, h⟩
    rw [e]
   ·refine ⟨?_, H2.below⟩
    rw [comp_no]
    rintro ⟨_, r, h2, h3, _⟩
    have : x.come[0] = r := by simp [h2]
    rw [this] at c; omega
  ·refine ⟨?_, H2.below⟩
   rw [comp_no]
   rintro ⟨_, r, h2, _⟩
   rw [h2] at c1; exact c1 rfl
 ·refine ⟨?_, H2.below⟩
  rw [comp_no]
  rintro ⟨h, _⟩; omega
end
section
variable {L : List Rg} {a : Option Addr} {c g : Nat} {ff fc : Array Value} {w : World}
theorem indexFuncR_ct (hs : SlR (CE encR) 3 w a L) (hl : L.length <= 140737488355328) (p : Rg -> Bool) (hok : okFn Tryz.prog g = true)
 (hf : ∀ (w' : World) (r : Rg), r ∈ L -> Below w.heap.size w w' -> Calls Tryz.prog g (ff ++ #[.agg #[.int .i64 r.sn, .int .i64 r.f, .int .i64 r.t]] ++ fc) w' fun e w'' => e = .returned (.bool (p r)) /\ Below w'.heap.size w' w'') :
 Calls Tryz.prog N_slices_IndexFunc_Sapi_Range_api_Range #[(.slice a L.length c), .func (.func g) ff fc] w fun e w' => e = .returned (.int .i64 (idx p L)) /\ Below w.heap.size w w' := by
 apply F_slices_IndexFunc_Sapi_Range_api_Range_ok
 unfold F_slices_IndexFunc_Sapi_Range_api_Range
 have H := St.nil w
 refine ⟨fun x => ((L.length - x).toNat, fun w1 => ∃ k : Nat, x = k /\ k <= L.length /\ (∀ j (hj : j < L.length), j < k -> p L[j] = false) /\ FreshR w w1 []), ⟨0, rfl, by omega, fun j _ h => by omega, H⟩, ?_⟩
 clear H
 rintro _ x w1 ⟨k, rfl, hk, hno, H1⟩
 refine bsplit_dec (fun c1 => ?_) (fun c1 => ?_)
 ·have hlt : k < L.length := by omega
  refine ixE (hs.belowE H1.below) k rfl hlt fun b s hsk hb => ?_
  obtain rfl : L[k] = s := by rw [List.getElem?_eq_getElem hlt] at hsk; injection hsk
  refine ⟨_, _, _, hb, ?_⟩
  refine ⟨hok, ?_⟩
  refine (hf w1 _ (List.getElem_mem hlt) H1.below).mono ?_
  rintro _ w2 ⟨rfl, hb2⟩; have H2 := H1.pass hb2; clear H1
  refine ⟨_, rfl, ?_⟩
  refine bsplit_intro (fun c => ?_) (fun c => ?_)
  ·exact ⟨by rw [idx_at hlt hno c], H2.below⟩
  ·refine kW_i64 (by omega) ?_
   exact ⟨⟨k + 1, by omega, by omega, fun j hj h => by
    rcases Nat.lt_or_ge j k with h' | h'
    ·exact hno j hj h'
    ·obtain rfl : j = k := by omega
     exact c, H2⟩, by dsimp only; omega⟩
 ·obtain rfl : k = L.length := by omega
  exact ⟨by rw [idx_no fun j hj => hno j hj hj], H1.below⟩
theorem containsFuncR_ct (hs : SlR (CE encR) 3 w a L) (hl : L.length <= 140737488355328) (p : Rg -> Bool) (hok : okFn Tryz.prog g = true)
 (hf : ∀ (w' : World) (r : Rg), r ∈ L -> Below w.heap.size w w' -> Calls Tryz.prog g (ff ++ #[.agg #[.int .i64 r.sn, .int .i64 r.f, .int .i64 r.t]] ++ fc) w' fun e w'' => e = .returned (.bool (p r)) /\ Below w'.heap.size w' w'') :
 Calls Tryz.prog N_slices_ContainsFunc_Sapi_Range_api_Range #[(.slice a L.length c), .func (.func g) ff fc] w fun e w' => e = .returned (.bool (L.any p)) /\ Below w.heap.size w w' := by
 apply F_slices_ContainsFunc_Sapi_Range_api_Range_ok
 unfold F_slices_ContainsFunc_Sapi_Range_api_Range
 refine (indexFuncR_ct hs hl p hok hf).mono ?_
 rintro _ w1 ⟨rfl, hb1⟩
 refine ⟨_, rfl, ?_⟩
 refine kLet_in ?_
 exact ⟨by rw [idx_any], hb1⟩
end
section
variable {L : List Pa} {a : Option Addr} {c g : Nat} {ff fc : Array Value} {w : World}
theorem indexFuncP_ct (hs : PaR w a L) (hl : L.length <= 140737488355328) (p : Pa -> Bool) (hok : okFn Tryz.prog g = true)
 (hf : ∀ (w' : World) (x : Pa) (a1 : Option Addr) (c1 : Nat) (a2 : Option Addr) (c2 : Nat), x ∈ L -> Below w.heap.size w w' -> Calls Tryz.prog g (ff ++ #[aggPa x a1 c1 a2 c2] ++ fc) w' fun e w'' => e = .returned (.bool (p x)) /\ Below w'.heap.size w' w'') :
 Calls Tryz.prog N_slices_IndexFunc_Sapi_Partial_api_Partial #[(.slice a L.length c), .func (.func g) ff fc] w fun e w' => e = .returned (.int .i64 (idx p L)) /\ Below w.heap.size w w' := by
 apply F_slices_IndexFunc_Sapi_Partial_api_Partial_ok
 unfold F_slices_IndexFunc_Sapi_Partial_api_Partial
 have H := St.nil w
 refine ⟨fun x => ((L.length - x).toNat, fun w1 => ∃ k : Nat, x = k /\ k <= L.length /\ (∀ j (hj : j < L.length), j < k -> p L[j] = false) /\ FreshR w w1 []), ⟨0, rfl, by omega, fun j _ h => by omega, H⟩, ?_⟩
 clear H
 rintro _ x w1 ⟨k, rfl, hk, hno, H1⟩
 refine bsplit_dec (fun c1 => ?_) (fun c1 => ?_)
 ·have hlt : k < L.length := by omega
  refine ixPa (paR_below hs H1.below) k rfl hlt fun b hb => ?_
  obtain ⟨a1, c1, a2, c2, hb, _, _⟩ := hb
  refine ⟨_, _, _, _, _, _, _, _, _, hb, ?_⟩
  refine ⟨hok, ?_⟩
  refine (hf w1 _ a1 c1 a2 c2 (List.getElem_mem hlt) H1.below).mono ?_
  rintro _ w2 ⟨rfl, hb2⟩; have H2 := H1.pass hb2; clear H1
  refine ⟨_, rfl, ?_⟩
  refine bsplit_intro (fun c => ?_) (fun c => ?_)
  ·exact ⟨by rw [idx_at hlt hno c], H2.below⟩
  ·refine kW_i64 (by omega) ?_
   exact ⟨⟨k + 1, by omega, by omega, fun j hj h => by
    rcases Nat.lt_or_ge j k with h' | h'
    ·exact hno j hj h'
    ·obtain rfl : j = k := by omega
     exact c, H2⟩, by dsimp only; omega⟩
 ·obtain rfl : k = L.length := by omega
  exact ⟨by rw [idx_no fun j hj => hno j hj hj], H1.below⟩
end
section
variable {L : List Int} {a : Option Addr} {c g : Nat} {ff fc : Array Value} {w : World}
theorem indexFuncB_ct (hs : SlR (IntC .u8) 1 w a L) (hl : L.length <= 140737488355328) (p : Int -> Bool) (hok : okFn Tryz.prog g = true)
 (hf : ∀ (w' : World) (x : Int), x ∈ L -> Below w.heap.size w w' -> Calls Tryz.prog g (ff ++ #[.int .u8 x] ++ fc) w' fun e w'' => e = .returned (.bool (p x)) /\ Below w'.heap.size w' w'') :
 Calls Tryz.prog N_slices_IndexFunc_Sbyte_byte #[(.slice a L.length c), .func (.func g) ff fc] w fun e w' => e = .returned (.int .i64 (idx p L)) /\ Below w.heap.size w w' := by
 apply F_slices_IndexFunc_Sbyte_byte_ok
 unfold F_slices_IndexFunc_Sbyte_byte
 have H := St.nil w
 refine ⟨fun x => ((L.length - x).toNat, fun w1 => ∃ k : Nat, x = k /\ k <= L.length /\ (∀ j (hj : j < L.length), j < k -> p L[j] = false) /\ FreshR w w1 []), ⟨0, rfl, by omega, fun j _ h => by omega, H⟩, ?_⟩
 clear H
 rintro _ x w1 ⟨k, rfl, hk, hno, H1⟩
 refine bsplit_dec (fun c1 => ?_) (fun c1 => ?_)
 ·have hlt : k < L.length := by omega
  refine ix_u8 (hs.below H1.below) k rfl hlt fun b hb => ?_
  refine hb _ ?_
  rw [getD_at hlt]
  refine ⟨hok, ?_⟩
  refine (hf w1 _ (List.getElem_mem hlt) H1.below).mono ?_
  rintro _ w2 ⟨rfl, hb2⟩; have H2 := H1.pass hb2; clear H1
  refine ⟨_, rfl, ?_⟩
  refine bsplit_intro (fun c => ?_) (fun c => ?_)
  ·exact ⟨by rw [idx_at hlt hno c], H2.below⟩
  ·refine kW_i64 (by omega) ?_
   exact ⟨⟨k + 1, by omega, by omega, fun j hj h => by
    rcases Nat.lt_or_ge j k with h' | h'
    ·exact hno j hj h'
    ·obtain rfl : j = k := by omega
     exact c, H2⟩, by dsimp only; omega⟩
 ·obtain rfl : k = L.length := by omega
  exact ⟨by rw [idx_no fun j hj => hno j hj hj], H1.below⟩
theorem containsFuncB_ct (hs : SlR (IntC .u8) 1 w a L) (hl : L.length <= 140737488355328) (p : Int -> Bool) (hok : okFn Tryz.prog g = true)
 (hf : ∀ (w' : World) (x : Int), x ∈ L -> Below w.heap.size w w' -> Calls Tryz.prog g (ff ++ #[.int .u8 x] ++ fc) w' fun e w'' => e = .returned (.bool (p x)) /\ Below w'.heap.size w' w'') :
 Calls Tryz.prog N_slices_ContainsFunc_Sbyte_byte #[(.slice a L.length c), .func (.func g) ff fc] w fun e w' => e = .returned (.bool (L.any p)) /\ Below w.heap.size w w' := by
 apply F_slices_ContainsFunc_Sbyte_byte_ok
 unfold F_slices_ContainsFunc_Sbyte_byte
 have H := St.nil w
 refine (indexFuncB_ct hs hl p hok hf).mono ?_
 rintro _ w1 ⟨rfl, hb1⟩; have H1 := H.pass hb1; clear H
 refine ⟨_, rfl, ?_⟩
 refine kLet_in ?_
 exact ⟨by rw [idx_any], H1.below⟩
end
theorem receiver_partial_1_ct {r : Rg} {x : Pa} {a a2 : Option Addr} {c c2 b0 : Nat} {w : World} (hc : cellsAt w ⟨b0, 0, none⟩ 0 (encPa x a c a2 c2)) :
 Calls Tryz.prog N_receiver_partial_1 #[(.agg #[.int .i64 r.sn, .int .i64 r.f, .int .i64 r.t]), (.pointer (some ⟨b0, 0, none⟩))] w fun e w' => e = .returned (.bool (!decide (r.sn = x.sn))) /\ Below w.heap.size w w' := by
 apply F_receiver_partial_1_ok
 unfold F_receiver_partial_1
 have H := St.nil w
 refine H.alloc ?_; clear H; intro b w1 H1
 refine H1.ld (i := 0) rfl rfl ?_
 refine ⟨_, lq (j := 0) (cells_below hc H1.below) rfl, ?_⟩
 refine kLet_in ?_
 exact ⟨rfl, H1.below⟩
theorem receiver_partial_2_ct {c : Int} {w : World} :
 Calls Tryz.prog N_receiver_partial_2 #[(.int .u8 c)] w fun e w' => e = .returned (.bool (!decide (c = 0))) /\ Below w.heap.size w w' := by
 apply F_receiver_partial_2_ok
 unfold F_receiver_partial_2
 have H := St.nil w
 refine kLet_in ?_
 exact ⟨rfl, H.below⟩
end Go.Proofs.YtmbppohkadmjgaaGreat
namespace Go.Proofs.YtmbppohkadmjgaaGreat
open Go.Sx Go.RowKit
set_option maxRecDepth 100000
def encPx (p : Pc) (a : Option Addr) (c : Nat) : List Value := [.int .i64 p.sn, .int .i64 p.part, .int .i64 p.poll, .int .i64 p.off, .slice a p.data.length c, .int .i64 p.en, .bool (ends p.part)]
abbrev aggPx (p : Pc) (a : Option Addr) (c : Nat) : Value := .agg #[.int .i64 p.sn, .int .i64 p.part, .int .i64 p.poll, .int .i64 p.off, .slice a p.data.length c, .int .i64 p.en, .bool (ends p.part)]
abbrev aggPc (p : Pc) (a : Option Addr) (c : Nat) : Value := .agg #[.int .i64 p.sn, .int .i64 p.part, .int .i64 p.poll, .int .i64 p.off, .slice a p.data.length c]
section
variable {p : Pc} {pa : Option Addr} {pc : Nat} {x : Pa} {a a2 : Option Addr} {c c2 : Nat} {w : World}
theorem receiver_piece_contradicts_ct (hu : SlR (CE encR) 3 w a2 x.come) (hl : x.come.length <= 140737488355328) :
 Calls Tryz.prog N_receiver_piece_contradicts #[aggPx p pa pc, aggPa x a c a2 c2] w fun e w' => e = .returned (.bool (contraB x p)) /\ Below w.heap.size w w' := by
 apply F_receiver_piece_contradicts_ok
 unfold F_receiver_piece_contradicts
 have H := St.nil w
 refine H.alloc ?_; clear H; intro b w1 H1
 refine H1.alloc ?_; clear H1; intro b1 w2 H2
 refine H2.ld (i := 1) rfl rfl ?_
 refine kLet_in ?_
 refine H2.ldB (i := 0) rfl rfl ?_
 refine bsplit_intro (fun c3 => ?_) (fun c3 => ?_)
 ·refine H2.drew ?_; clear H2; intro w3 H3
  refine ⟨(· < w3.heap.size), ?_⟩
  refine bsplit_nd (fun c1 => ?_) (fun c1 => ?_)
  ·refine H3.ld (i := 1) rfl rfl ?_
   refine H3.ld (i := 0) rfl rfl ?_
   refine bsplit_nd (fun c => ?_) (fun c => ?_)
   ·exact ⟨by rw [contraB, if_pos c3]; exact retT (.inl ⟨c1, c⟩), H3.below⟩
   ·refine H3.ldS (i := 1) rfl rfl ?_
    refine ⟨H3.lt (i := 0) rfl rfl, ?_⟩
    refine H3.ld (i := 0) rfl rfl ?_
    refine (receiver_end_ct (hu.belowE H3.below) hl).mono ?_
    rintro _ w4 ⟨rfl, hb4⟩; have H4 := H3.pass hb4
    refine ⟨_, rfl, ?_⟩
    refine ⟨hb4.keeps, ?_⟩
    refine kLet_in ?_
    exact ⟨by rw [contraB, if_pos c3]; exact retD ⟨fun h => .inr h, fun h => h.elim (fun h => absurd c h.2) id⟩, H4.below⟩
  ·refine H3.ldS (i := 1) rfl rfl ?_
   refine ⟨H3.lt (i := 0) rfl rfl, ?_⟩
   refine H3.ld (i := 0) rfl rfl ?_
   refine (receiver_end_ct (hu.belowE H3.below) hl).mono ?_
   rintro _ w5 ⟨rfl, hb5⟩; have H5 := H3.pass hb5
   refine ⟨_, rfl, ?_⟩
   refine ⟨hb5.keeps, ?_⟩
   refine kLet_in ?_
   exact ⟨by rw [contraB, if_pos c3]; exact retD ⟨fun h => .inr h, fun h => h.elim (fun h => absurd c1 h.1) id⟩, H5.below⟩
 ·refine kLet_in ?_
  refine bsplit_nd (fun c2 => ?_) (fun c2 => ?_)
  ·refine H2.ld (i := 0) rfl rfl ?_
   refine H2.ld (i := 1) rfl rfl ?_
   refine kLet_in ?_
   exact ⟨by rw [contraB, if_neg (by rw [c3]; decide)]; exact retD ⟨fun h => ⟨c2, h⟩, fun h => h.2⟩, H2.below⟩
  ·exact ⟨by rw [contraB, if_neg (by rw [c3]; decide)]; exact retF (fun h => h.1 c2), H2.below⟩
theorem receiver_piece_known_1_ct {r : Rg} {b0 : Nat} (hc : cellsAt w ⟨b0, 0, none⟩ 0 (encPx p pa pc)) :
 Calls Tryz.prog N_receiver_piece_known_1 #[(.agg #[.int .i64 r.sn, .int .i64 r.f, .int .i64 r.t]), (.pointer (some ⟨b0, 0, none⟩))] w fun e w' => e = .returned (.bool (decide (r.f <= p.off /\ p.en <= r.t))) /\ Below w.heap.size w w' := by
 apply F_receiver_piece_known_1_ok
 unfold F_receiver_piece_known_1
 have H := St.nil w
 refine H.alloc ?_; clear H; intro b w1 H1
 refine H1.ld (i := 0) rfl rfl ?_
 refine ⟨_, lq (j := 3) (cells_below hc H1.below) rfl, ?_⟩
 refine bsplit_dec (fun c => ?_) (fun c => ?_)
 ·refine H1.ld (i := 0) rfl rfl ?_
  refine ⟨_, lq (j := 5) (cells_below hc H1.below) rfl, ?_⟩
  refine kLet_in ?_
  exact ⟨retD ⟨fun h => ⟨c, h⟩, fun h => h.2⟩, H1.below⟩
 ·exact ⟨retF (fun h => c h.1), H1.below⟩
theorem receiver_piece_known_ct (hu : SlR (CE encR) 3 w a2 x.come) (hl : x.come.length <= 140737488355328) :
 Calls Tryz.prog N_receiver_piece_known #[aggPx p pa pc, aggPa x a c a2 c2] w fun e w' => e = .returned (.bool (hasB x p)) /\ Below w.heap.size w w' := by
 apply F_receiver_piece_known_ok
 unfold F_receiver_piece_known
 have H := St.nil w
 refine H.alloc ?_; clear H; intro b w1 H1
 refine H1.alloc ?_; clear H1; intro b1 w2 H2
 refine H2.ldS (i := 1) rfl rfl ?_
 refine (containsFuncR_ct (ff := #[]) (hu.belowE H2.below) hl (fun r => decide (r.f <= p.off /\ p.en <= r.t)) (by kernel_rfl) fun w' r hr hw' => ?_).mono ?_
 ·exact receiver_piece_known_1_ct (p := p) (pa := pa) (pc := pc) (cells_below (H2.cells (i := 0) rfl) hw')
 rintro _ w3 ⟨rfl, hb3⟩; have H3 := H2.pass hb3; clear H2
 refine ⟨_, rfl, ?_⟩
 refine bsplit_intro (fun c1 => ?_) (fun c1 => ⟨by rw [hasB, c1]; rfl, H3.below⟩)
 ·refine H3.ldB (i := 0) rfl rfl ?_
  refine bsplit_n (fun c => ?_) (fun c => ?_)
  ·exact ⟨by rw [hasB, c1, c]; rfl, H3.below⟩
  ·refine H3.ld (i := 1) rfl rfl ?_
   refine kLet_in ?_
   exact ⟨by rw [hasB, c1, c]; rfl, H3.below⟩
end
section
variable {s : Rc} {a : Option Addr} {c : Nat} {s_b s_o : Nat} {p : Pc} {pa : Option Addr} {pc : Nat} {w : World}
def refX (s : Rc) (p : Pc) (o : Option Pa) : Int :=
 if s.place p.sn >= 2 ^ (s.lk.bits - 1).toNat then 11 else match o with
  | none => 0
  | some x => if x.done then 12 else if contraB x p then 4 else if hasB x p then 12 else 0
theorem refX_old (h : s.place p.sn >= 2 ^ (s.lk.bits - 1).toNat) (o : Option Pa) : refX s p o = 11 := by unfold refX; rw [if_pos h]
theorem refX_none (h : ¬ s.place p.sn >= 2 ^ (s.lk.bits - 1).toNat) : refX s p none = 0 := by unfold refX; rw [if_neg h]
theorem refX_some (h : ¬ s.place p.sn >= 2 ^ (s.lk.bits - 1).toNat) (x : Pa) : refX s p (some x) = if x.done then 12 else if contraB x p then 4 else if hasB x p then 12 else 0 := by unfold refX; rw [if_neg h]
theorem refX_eq {s : Rc} {p : Pc} : refusedS s p = refX s p (if foundB s p.sn then s.parts[atP s p.sn]? else none) := by
 unfold refusedS refX foundB
 cases h : s.parts[atP s p.sn]? with
 | none => simp
 | some x =>
  by_cases hx : x.sn = p.sn
  ·simp [hx]
  ·simp [hx]
theorem receiver_side_refused_ct {k : Nat} {found : Bool} (hc : cellsAt w ⟨s_b, s_o, none⟩ 0 (encRc s a c)) (hu : PaR w a s.parts) (hb : bitsOk s.lk.bits) (hk : found = true -> k < s.parts.length) (hl : ∀ x ∈ s.parts, x.come.length <= 140737488355328) :
 Calls Tryz.prog N_receiver_side_refused #[(.pointer (some ⟨s_b, s_o, none⟩)), aggPx p pa pc, (.int .i64 k), (.bool found)] w fun e w' => e = .returned (.int .i64 (refX s p (if found then s.parts[k]? else none))) /\ Below w.heap.size w w' := by
 apply F_receiver_side_refused_ok
 unfold F_receiver_side_refused
 have H := St.nil w
 have hp := pow_bits1 hb
 have hb' := hb
 obtain ⟨hb1, hb2⟩ := hb'
 refine H.alloc ?_; clear H; intro b w1 H1
 refine H1.drew ?_; clear H1; intro w2 H2
 refine ⟨(· < w2.heap.size), ?_⟩
 refine H2.ld (i := 0) rfl rfl ?_
 refine ⟨cells_lt (cells_below hc H2.below), ?_⟩
 refine ⟨_, lq (j := 0) (cells_below hc H2.below) rfl, ?_⟩
 refine kW_i64 (by omega) ?_
 refine ⟨by omega, ?_⟩
 refine kShl1 (by omega) ?_
 refine (receiver_side_place_ct (cells_below hc H2.below) hb).mono ?_
 rintro _ w3 ⟨rfl, hb3⟩; have H3 := H2.pass hb3
 refine ⟨_, rfl, ?_⟩
 refine ⟨hb3.keeps, ?_⟩
 refine kLet_in ?_
 refine bsplit_dec (fun c4 => ?_) (fun c4 => ?_)
 ·exact ⟨by rw [refX_old c4], H3.below⟩
 ·refine bsplit_n (fun c3 => ⟨by rw [c3, if_neg (by decide), refX_none c4], H3.below⟩) (fun c3 => ?_)
  have hlt := hk c3
  have hm := List.getElem_mem hlt
  obtain ⟨y, hy⟩ : ∃ y, y = s.parts[k] := ⟨_, rfl⟩
  have e : refX s p (if found then s.parts[k]? else none) = if y.done then 12 else if contraB y p then 4 else if hasB y p then 12 else 0 := by
   rw [c3, if_pos rfl, List.getElem?_eq_getElem hlt, <- hy, refX_some c4]
  rw [e]
  rw [<- hy] at hm
  ·refine ⟨_, _, _, lq (j := 13) (cells_below hc H3.below) rfl, ?_⟩
   refine ixPa (paR_below hu H3.below) k rfl hlt fun b1 hb1 => ?_
   rw [<- hy] at hb1
   obtain ⟨a1, c1, a2, c2, hb1, _, _, _⟩ := hb1
   refine ⟨_, by have := cellsAt_get hb1 1 _ rfl; rwa [Nat.zero_add] at this, ?_⟩
   refine bsplit_intro (fun c2 => ?_) (fun c2 => ?_)
   ·exact ⟨by rw [if_pos c2], H3.below⟩
   ·refine H3.drew ?_; clear H3; intro w4 H4
    refine ⟨(· < w4.heap.size), ?_⟩
    refine ⟨_, _, _, _, _, _, _, _, _, H4.cells (i := 0) rfl, ?_⟩
    refine ⟨_, _, _, lq (j := 13) (cells_below hc H4.below) rfl, ?_⟩
    refine ixPa (paR_below hu H4.below) k rfl hlt fun b2 hb2 => ?_
    rw [<- hy] at hb2
    obtain ⟨a3, c3', a4, c4', hb2, _, hr2, _⟩ := hb2
    refine ⟨_, _, _, _, _, _, _, _, _, hb2, ?_⟩
    refine (receiver_piece_contradicts_ct hr2 (hl y hm)).mono ?_
    rintro _ w5 ⟨rfl, hb5⟩; have H5 := H4.pass hb5
    refine ⟨_, rfl, ?_⟩
    refine ⟨hb5.keeps, ?_⟩
    refine bsplit_intro (fun c1 => ?_) (fun c1 => ?_)
    ·exact ⟨by rw [if_neg (by rw [c2]; decide), if_pos c1], H5.below⟩
    ·refine H5.drew ?_; clear H5; intro w6 H6
     refine ⟨(· < w6.heap.size), ?_⟩
     refine ⟨_, _, _, _, _, _, _, _, _, H6.cells (i := 0) rfl, ?_⟩
     refine ⟨_, _, _, lq (j := 13) (cells_below hc H6.below) rfl, ?_⟩
     refine ixPa (paR_below hu H6.below) k rfl hlt fun b3 hb3 => ?_
     rw [<- hy] at hb3
     obtain ⟨a5, c5, a6, c6, hb3, _, hr3, _⟩ := hb3
     refine ⟨_, _, _, _, _, _, _, _, _, hb3, ?_⟩
     refine (receiver_piece_known_ct hr3 (hl y hm)).mono ?_
     rintro _ w7 ⟨rfl, hb7⟩; have H7 := H6.pass hb7
     refine ⟨_, rfl, ?_⟩
     refine ⟨hb7.keeps, ?_⟩
     refine bsplit_intro (fun c => ?_) (fun c => ?_)
     ·exact ⟨by rw [if_neg (by rw [c2]; decide), if_neg (by rw [c1]; decide), if_pos c], H7.below⟩
     ·exact ⟨by rw [if_neg (by rw [c2]; decide), if_neg (by rw [c1]; decide), if_neg (by rw [c]; decide)], H7.below⟩
end
section
variable {A : Nat -> Prop} {P : World -> Prop} {s : Rc} {a : Option Addr} {c g : Nat} {p : Pc} {pa : Option Addr} {pc : Nat} {w : World}
abbrev rcBlk (g : Nat) (s : Rc) (a : Option Addr) (c : Nat) : Res := .blk g Ty_receiver_side (encRc s a c)
theorem receiver_side_poll_ct (hP : Held A w P) (hB : (rcBlk g s a c).ok w) (hn : ∀ b, (rcBlk g s a c).at = some b -> ¬ A b) :
 Calls Tryz.prog N_receiver_side_poll #[(.pointer (some ⟨g, 0, none⟩)), aggPc p pa pc] w fun e w' => e = .returned (.tuple #[]) /\ St A [g] w w' [rcBlk g (pollR s p) a c] P := by
 apply F_receiver_side_poll_ok
 unfold F_receiver_side_poll
 have H : St A [g] w w [rcBlk g s a c] P := St.startM hP hB hn
 refine H.alloc ?_; clear H; intro b w1 H1
 refine H1.ld (i := 1) rfl rfl ?_
 refine bsplit_dec (fun c => ?_) (fun c => ?_)
 ·refine H1.ld (i := 0) rfl rfl ?_
  refine H1.set (i := 0) rfl (by simp [encRc]) ?_; clear H1; intro w2 H2
  refine H2.set (i := 0) rfl (by simp [encRc]) ?_; clear H2; intro w3 H3
  refine ⟨rfl, ?_⟩
  rw [pollR, if_pos c]
  exact H3.sub (fun i => i) (fun i r h => by
   cases i with
   | zero => exact h
   | succ i => simp at h) (fun i j _ _ h => h)
 ·refine ⟨rfl, ?_⟩
  rw [pollR, if_neg c]
  exact St.dropLast (R := [_]) H1
theorem receiver_side_start_ct (hb : bitsOk s.lk.bits) (hP : Held A w P) (hB : (rcBlk g s a c).ok w) (hn : ∀ b, (rcBlk g s a c).at = some b -> ¬ A b) :
 Calls Tryz.prog N_receiver_side_start #[(.pointer (some ⟨g, 0, none⟩))] w fun e w' => e = .returned (.tuple #[]) /\ St A [g] w w' [rcBlk g (startR s) a c] P := by
 apply F_receiver_side_start_ok
 unfold F_receiver_side_start
 have H : St A [g] w w [rcBlk g s a c] P := St.startM hP hB hn
 obtain ⟨t, ht⟩ : ∃ t : Rc, t = if s.mark ≠ -1 /\ (s.place s.mark = 0 \/ s.place s.mark > s.place s.next) then { s with mark := -1, left := 0 } else s := ⟨_, rfl⟩
 have e0 : startR s = if t.mark = -1 /\ t.first ≠ t.next then { t with mark := t.next, left := t.lk.wait } else t := by rw [ht]; rfl
 refine ⟨fun w8 => St A [g] w w8 [rcBlk g t a c] P, ?_, ?_⟩
 ·rintro _ w8 H8
  refine ⟨fun x8 w10 => St A [g] w w10 [rcBlk g t a c] P /\ (x8 = true ↔ t.mark = -1 /\ t.first ≠ t.next), ?_, ?_⟩
  ·rintro _ x8 w10 ⟨H10, hj⟩
   refine bsplit_intro (fun c4 => ?_) (fun c4 => ?_)
   ·refine H10.drew ?_; clear H10; intro w11 H11
    refine ⟨fun x => x < w11.heap.size /\ x ∉ [g], ?_⟩
    have f11 := Fr.refl [g] w11
    refine H11.ld (i := 0) rfl rfl ?_
    refine H11.ld (i := 0) rfl rfl ?_
    refine H11.setF (i := 0) rfl (by simp [encRc]) ?_; intro w12 g12 H12
    have f12 := f11.tr g12 (by simp)
    refine ⟨f12.keeps, ?_⟩
    refine H12.set (i := 0) rfl (by simp [encRc]) ?_; intro w13 H13
    refine ⟨rfl, ?_⟩
    rw [e0, if_pos (hj.1 c4)]
    exact H13
   ·refine ⟨rfl, ?_⟩
    rw [e0, if_neg (fun h => by rw [hj.2 h] at c4; cases c4)]
    exact H10
  ·refine H8.drew ?_; clear H8; intro w9 H9
   refine H9.ld (i := 0) rfl rfl ?_
   refine bsplit_dec (fun c3 => ?_) (fun c3 => ?_)
   ·refine H9.ld (i := 0) rfl rfl ?_
    refine H9.ld (i := 0) rfl rfl ?_
    exact ⟨H9, by simp only [Bool.not_eq_true', decide_eq_false_iff_not]; exact ⟨fun h => ⟨c3, h⟩, fun h => h.2⟩⟩
   ·exact ⟨H9, iff_of_false (by decide) fun h => c3 h.1⟩
 ·refine ⟨fun x4 w5 => St A [g] w w5 [rcBlk g s a c] P /\ (x4 = true ↔ s.mark ≠ -1 /\ (s.place s.mark = 0 \/ s.place s.mark > s.place s.next)), ?_, ?_⟩
  ·rintro _ x4 w5 ⟨H5, hj⟩
   refine bsplit_intro (fun c2 => ?_) (fun c2 => ?_)
   ·refine H5.set (i := 0) rfl (by simp [encRc]) ?_; clear H5; intro w6 H6
    refine H6.set (i := 0) rfl (by simp [encRc]) ?_; clear H6; intro w7 H7
    rw [ht, if_pos (hj.1 c2)]
    exact H7
   ·rw [ht, if_neg (fun h => by rw [hj.2 h] at c2; cases c2)]
    exact H5
  ·refine H.drew ?_; clear H; intro w1 H1
   refine ⟨(· < w1.heap.size), ?_⟩
   refine H1.ld (i := 0) rfl rfl ?_
   refine bsplit_nd (fun c1 => ?_) (fun c1 => ?_)
   ·refine H1.ld (i := 0) rfl rfl ?_
    refine (receiver_side_place_ct (H1.cells (i := 0) rfl) hb).mono ?_
    rintro _ w2 ⟨rfl, hb2⟩; have H2 := H1.pass hb2
    refine ⟨_, rfl, ?_⟩
    refine ⟨hb2.keeps, ?_⟩
    refine bsplit_dec (fun c => ?_) (fun c => ?_)
    ·exact ⟨H2, iff_of_true rfl ⟨c1, .inl c⟩⟩
    ·refine ⟨H1.lt (i := 0) rfl rfl, ?_⟩
     refine H1.ld (i := 0) rfl rfl ?_
     refine ⟨H1.lt (i := 0) rfl rfl, ?_⟩
     refine H1.ld (i := 0) rfl rfl ?_
     refine (receiver_side_place_ct (H2.cells (i := 0) rfl) hb).mono ?_
     rintro _ w3 ⟨rfl, hb3⟩; have H3 := H2.pass hb3
     refine ⟨_, rfl, ?_⟩
     replace hb3 := below_step hb2 (Nat.le_refl _) hb3
     refine ⟨hb3.keeps, ?_⟩
     refine (receiver_side_place_ct (H3.cells (i := 0) rfl) hb).mono ?_
     rintro _ w4 ⟨rfl, hb4⟩; have H4 := H3.pass hb4
     refine ⟨_, rfl, ?_⟩
     replace hb4 := below_step hb3 (Nat.le_refl _) hb4
     refine ⟨hb4.keeps, ?_⟩
     exact ⟨H4, by rw [decide_eq_true_iff]; exact ⟨fun h => ⟨c1, .inr h⟩, fun h => h.2.elim (fun h' => absurd h' c) id⟩⟩
   ·exact ⟨H1, iff_of_false (by decide) fun h => h.1 c1⟩
end
section
variable {l : Lk} {w : World}
def RetN (w : World) (x : Rc × Int) (e : Ending) (w' : World) : Prop := e = .returned (.tuple #[aggRc x.1 none 0, .int .i64 x.2]) /\ x.1.parts = [] /\ Below w.heap.size w w'
theorem receiver_New_ct :
 Calls Tryz.prog N_receiver_New #[(.agg #[.int .i64 l.bits, .int .i64 l.every, .int .i64 l.poll, .int .i64 l.wait, .int .i64 l.quiet, .int .i64 l.tries])] w (RetN w (newRc l)) := by
 apply F_receiver_New_ok
 unfold F_receiver_New
 have H := St.nil w
 refine H.alloc ?_; clear H; intro b w1 H1
 refine H1.alloc ?_; clear H1; intro b1 w2 H2
 refine ⟨_, _, _, _, _, _, H2.cells (i := 0) rfl, ?_⟩
 refine sender_ValidLink_ct.mono ?_
 rintro _ w3 ⟨rfl, hb3⟩; have H3 := H2.pass hb3; clear H2
 refine ⟨_, rfl, ?_⟩
 refine bsplit_nd (fun c => ?_) (fun c => ?_)
 ·refine H3.store (i := 1) rfl (by rfl) (by rfl) ?_; clear H3; intro w4 H4
  refine ⟨_, _, _, _, _, _, _, _, _, _, _, _, _, _, _, _, H4.cells (i := 1) rfl, ?_⟩
  rw [newRc, if_neg c]
  exact ⟨rfl, rfl, H4.below⟩
 ·refine ⟨_, _, _, _, _, _, H3.cells (i := 0) rfl, ?_⟩
  refine H3.store (i := 1) rfl (by rfl) (by rfl) ?_; clear H3; intro w5 H5
  refine ⟨_, _, _, _, _, _, _, _, _, _, _, _, _, _, _, _, H5.cells (i := 1) rfl, ?_⟩
  rw [newRc, if_pos c]
  exact ⟨rfl, rfl, H5.below⟩
end
section
variable {x : Pa} {a a2 : Option Addr} {c c2 : Nat} {s : Rc} {n : Int} {p : Pc} {pa : Option Addr} {pc : Nat} {w : World}
end
end Go.Proofs.YtmbppohkadmjgaaGreat
namespace Go.Proofs.YtmbppohkadmjgaaGreat
open Go.Sx Go.RowKit
set_option maxRecDepth 100000
theorem any_not {l : List Int} : l.any (fun c => !decide (c = 0)) = !l.all fun c => decide (c = 0) := by
 rw [List.all_eq_not_any_not, Bool.not_not]
theorem gaps_in {x : Pa} (h : paNum x) {k : Nat} (hk : k < (gapsS x.sn x.come 0 x.data.length).length) : 0 <= (gapsS x.sn x.come 0 x.data.length)[k].f /\ (gapsS x.sn x.come 0 x.data.length)[k].f < (gapsS x.sn x.come 0 x.data.length)[k].t /\ (gapsS x.sn x.come 0 x.data.length)[k].t <= x.data.length := by
 obtain ⟨_, _, hn, _, he, hd, _⟩ := h
 have h1 := (norm_end (q := 0) hn).1
 have h2 := norm_lt _ _ (gaps_norm x.sn x.data.length x.come (-1) 0 (by simpa using hn) (by omega)) _ (List.getElem_mem hk)
 have h3 := gaps_le x.sn x.data.length x.come 0 (fun y hy => by have := h1 y hy; have := (norm_lt _ _ hn y hy).2; unfold endT at he; omega) _ (List.getElem_mem hk)
 omega
theorem gapsS_len (sn m : Int) : ∀ (l : List Rg) (p : Int), (gapsS sn l p m).length <= l.length + 1
 | [], p => by unfold gapsS; split <;> simp
 | x :: l, p => by
  unfold gapsS
  have := gapsS_len sn m l x.t
  split <;> simp <;> omega
section
variable {x : Pa} {a a2 : Option Addr} {c c2 : Nat} {w : World}
theorem receiver_partial_ct (hd : SlR (IntC .u8) 1 w a x.data) (hu : SlR (CE encR) 3 w a2 x.come) (hcap : x.data.length <= c) (hl : x.come.length <= 140737488355328) (hl2 : x.data.length <= 140737488355328) :
 Calls Tryz.prog N_receiver_partial #[aggPa x a c a2 c2] w fun e w' => e = .returned (.bool (paB x)) /\ Below w.heap.size w w' := by
 apply F_receiver_partial_ok
 unfold F_receiver_partial
 have H := St.nil w
 have e1 : x.done = true -> paB x = decide (x.len = 0 /\ x.data = [] /\ x.come = []) := fun h => by rw [paB, if_pos h]
 refine H.alloc ?_; clear H; intro b w1 H1
 refine H1.ldB (i := 0) rfl rfl ?_
 refine bsplit_intro (fun c14 => ?_) (fun c14 => ?_)
 ·refine H1.ld (i := 0) rfl rfl ?_
  refine bsplit_dec (fun c1 => ?_) (fun c1 => ?_)
  ·refine H1.ldS (i := 0) rfl rfl ?_
   refine bsplit_dec (fun c => ?_) (fun c => ?_)
   ·refine H1.ldS (i := 0) rfl rfl ?_
    refine kLet_in ?_
    exact ⟨by rw [e1 c14]; exact retD ⟨fun h => ⟨c1, List.eq_nil_of_length_eq_zero (by omega), List.eq_nil_of_length_eq_zero (by omega)⟩, fun h => by rw [h.2.2]; rfl⟩, H1.below⟩
   ·exact ⟨by rw [e1 c14]; exact retF (fun h => c (by rw [h.2.1]; rfl)), H1.below⟩
  ·exact ⟨by rw [e1 c14]; exact retF (fun h => c1 h.1), H1.below⟩
 ·have e2 : paB x = (decide (paNum x) && zeroB x) := by rw [paB, if_neg (by rw [c14]; decide)]
  refine ⟨fun w2 => St (fun _ => False) [] w w2 [.blk b Ty_api_Partial (encPa x a c a2 c2)] (fun _ => True) /\ (x.len = -1 \/ (1 <= x.len /\ x.len <= 2054 /\ (x.data.length : Int) <= x.len)), ?_, ?_⟩
  ·rintro _  w2 ⟨H2, hj⟩
   refine ⟨fun x7 w8 => St (fun _ => False) [] w w8 [.blk b Ty_api_Partial (encPa x a c a2 c2)] (fun _ => True) /\ (x7 = false ↔ paNum x), ?_, ?_⟩
   ·rintro _ x7 w8 ⟨H8, hj⟩
    refine bsplit_intro (fun c13 => ?_) (fun c13 => ?_)
    ·exact ⟨by rw [e2, decide_eq_false (fun h => by rw [hj.2 h] at c13; cases c13)]; rfl, H8.below⟩
    ·have hn := hj.1 c13
     have hlen := paNum_len hn
     have hgap := gapR_at (sn := x.sn) hn.2.2.1 (Int.le_of_eq hn.2.2.2.2.1.symm) (Int.natCast_nonneg _)
     have hgi := fun k hk => gaps_in (k := k) hn hk
     have hgl := gapsS_len x.sn x.data.length x.come 0
     rw [decide_eq_true hn, Bool.true_and, zeroB] at e2
     refine H8.ldS (i := 0) rfl rfl ?_
     refine H8.ld (i := 0) rfl rfl ?_
     refine H8.ldS (i := 0) rfl rfl ?_
     have C := segment_Gaps_ct (l_c := c2) (sn := x.sn) (len := x.data.length) (hu.belowE H8.below) (by omega)
     rw [hgap] at C
     dsimp only at C
     refine C.mono ?_; clear C
     obtain ⟨G, hG⟩ : ∃ G, G = gapsS x.sn x.come 0 x.data.length := ⟨_, rfl⟩
     rw [<- hG] at e2 hgi hgl ⊢
     rintro _ w9 ⟨r_a, r_c, _, rfl, K⟩; have H9 := H8.callF K; clear H8
     refine ⟨_, _, _, _, rfl, ?_⟩
     refine ⟨fun x9 => ((G.length - x9).toNat, fun w10 => ∃ k : Nat, x9 = k /\ k <= G.length /\ (∀ j (hj : j < G.length), j < k -> ((x.data.drop G[j].f.toNat).take (G[j].t.toNat - G[j].f.toNat)).all (fun c => decide (c = 0)) = true) /\ St (fun _ => False) [] w w10 [.blk b Ty_api_Partial (encPa x a c a2 c2)] (fun w => SlR (CE encR) 3 w r_a G)), ⟨0, rfl, by omega, fun j _ h => by omega, H9.imp fun _ h => h.1⟩, ?_⟩
     clear H9
     rintro _ x9 w10 ⟨k, rfl, hk, hno, H10⟩
     refine bsplit_dec (fun c12 => ?_) (fun c12 => ?_)
     ·have hlt : k < G.length := by omega
      refine ixE H10.get k rfl hlt fun b1 g hg hb1 => ?_
      obtain rfl : G[k] = g := by rw [List.getElem?_eq_getElem hlt] at hg; injection hg
      obtain ⟨h1, h2, h3⟩ := hgi k hlt
      refine ⟨_, _, _, hb1, ?_⟩
      refine H10.alloc ?_; clear H10; intro b2 w11 H11
      refine H11.store (i := 1) rfl (by rfl) (by rfl) ?_; clear H11; intro w12 H12
      refine H12.ldS (i := 0) rfl rfl ?_
      refine H12.ld (i := 1) rfl rfl ?_
      refine H12.ld (i := 1) rfl rfl ?_
      refine ⟨⟨by omega, by omega⟩, ?_⟩
      refine ⟨⟨by omega, by omega⟩, ?_⟩
      have hll : ((x.data.drop G[k].f.toNat).take (G[k].t.toNat - G[k].f.toNat)).length = G[k].t.toNat - G[k].f.toNat := by rw [List.length_take, List.length_drop]; omega
      have C := containsFuncB_ct (ff := #[]) (fc := #[]) (c := c - G[k].f.toNat) (SlR.cut (hd.below H12.below) hcap (l := G[k].f.toNat) (G[k].t.toNat - G[k].f.toNat)) (by rw [hll]; omega) (fun c => !decide (c = 0)) (by kernel_rfl) fun w' x _ _ => receiver_partial_2_ct
      rw [hll] at C
      refine C.mono ?_; clear C
      rintro _ w13 ⟨rfl, hb13⟩; have H13 := H12.pass hb13; clear H12
      refine ⟨_, rfl, ?_⟩
      refine bsplit_intro (fun c11 => ?_) (fun c11 => ?_) <;> rw [any_not] at c11
      ·refine ⟨?_, H13.below⟩
       have e3 : (G.all fun g => ((x.data.drop g.f.toNat).take (g.t.toNat - g.f.toNat)).all fun c => decide (c = 0)) = false := by
        rw [Bool.eq_false_iff]
        intro h
        rw [List.all_eq_true.1 h _ (List.getElem_mem hlt)] at c11; cases c11
       rw [e2, e3]
      ·refine kW_i64 (by omega) ?_
       exact ⟨⟨k + 1, by omega, by omega, fun j hj h => by
        rcases Nat.lt_or_ge j k with h' | h'
        ·exact hno j hj h'
        ·obtain rfl : j = k := by omega
         simpa using c11, St.dropLast (R := [_]) H13⟩, by dsimp only; omega⟩
     ·refine ⟨?_, H10.below⟩
      rw [e2, List.all_eq_true.2]
      intro g hg
      obtain ⟨j, hj, rfl⟩ := List.getElem_of_mem hg
      exact hno j hj (by omega)
   ·refine H2.drew ?_; clear H2; intro w3 H3
    refine ⟨(· < w3.heap.size), ?_⟩
    refine H3.ldS (i := 0) rfl rfl ?_
    refine bsplit_dec (fun c10 => ?_) (fun c10 => ?_)
    ·exact ⟨H3, iff_of_false (by decide) fun h => h.2.1 (List.eq_nil_of_length_eq_zero (by omega))⟩
    ·refine H3.ldS (i := 0) rfl rfl ?_
     refine (segment_Normal_ct (hu.belowE H3.below) hl).mono ?_
     rintro _ w4 ⟨rfl, hb4⟩; have H4 := H3.pass hb4
     refine ⟨_, rfl, ?_⟩
     refine ⟨hb4.keeps, ?_⟩
     refine bsplit_n (fun c9 => ?_) (fun c9 => ?_)
     ·exact ⟨H4, iff_of_false (by decide) fun h => by rw [h.2.2.1] at c9; cases c9⟩
     ·refine ⟨H3.lt (i := 0) rfl rfl, ?_⟩
      refine H3.ldS (i := 0) rfl rfl ?_
      refine (containsFuncR_ct (ff := #[]) (hu.belowE H4.below) hl (fun r => !decide (r.sn = x.sn)) (by kernel_rfl) fun w' r hr hw' => ?_).mono ?_
      ·exact receiver_partial_1_ct (x := x) (a := a) (c := c) (a2 := a2) (c2 := c2) (cells_below (H4.cells (i := 0) rfl) hw')
      rintro _ w5 ⟨rfl, hb5⟩; have H5 := H4.pass hb5
      refine ⟨_, rfl, ?_⟩
      replace hb5 := below_step hb4 (Nat.le_refl _) hb5
      refine ⟨hb5.keeps, ?_⟩
      refine bsplit_intro (fun c8 => ?_) (fun c8 => ?_)
      ·refine ⟨H5, iff_of_false (by decide) fun h => ?_⟩
       obtain ⟨r, hr, h2⟩ := List.any_eq_true.1 c8
       have := h.2.2.2.1 r hr
       simp [this] at h2
      ·have hsn : ∀ r ∈ x.come, r.sn = x.sn := fun r hr => by
        have := List.any_eq_false.1 c8 r hr
        simpa using this
       refine ⟨H3.lt (i := 0) rfl rfl, ?_⟩
       refine H3.ldS (i := 0) rfl rfl ?_
       refine ⟨H3.lt (i := 0) rfl rfl, ?_⟩
       refine H3.ldS (i := 0) rfl rfl ?_
       refine (receiver_end_ct (hu.belowE H5.below) hl).mono ?_
       rintro _ w6 ⟨rfl, hb6⟩; have H6 := H5.pass hb6
       refine ⟨_, rfl, ?_⟩
       replace hb6 := below_step hb5 (Nat.le_refl _) hb6
       refine ⟨hb6.keeps, ?_⟩
       refine bsplit_nd (fun c7 => ?_) (fun c7 => ?_)
       ·exact ⟨H6, iff_of_false (by decide) fun h => c7 h.2.2.2.2.1⟩
       ·refine ⟨H3.lt (i := 0) rfl rfl, ?_⟩
        refine H3.ldS (i := 0) rfl rfl ?_
        refine bsplit_dec (fun c6 => ?_) (fun c6 => ?_)
        ·exact ⟨H6, iff_of_false (by decide) fun h => by have := h.2.2.2.2.2.1; omega⟩
        ·refine ⟨H3.lt (i := 0) rfl rfl, ?_⟩
         refine ⟨_, _, _, _, _, _, _, _, _, H3.cells (i := 0) rfl, ?_⟩
         refine (receiver_complete_ct (hu.belowE H6.below)).mono ?_
         rintro _ w7 ⟨rfl, hb7⟩; have H7 := H6.pass hb7
         refine ⟨_, rfl, ?_⟩
         replace hb7 := below_step hb6 (Nat.le_refl _) hb7
         refine ⟨hb7.keeps, ?_⟩
         exact ⟨H7, ⟨fun hc => ⟨hj, fun e => c10 (by rw [e]; rfl), c9, hsn, c7, by omega, hc⟩, fun h => h.2.2.2.2.2.2⟩⟩
  ·refine H1.ld (i := 0) rfl rfl ?_
   refine bsplit_nd (fun c5 => ?_) (fun c5 => ?_)
   ·refine H1.ld (i := 0) rfl rfl ?_
    refine bsplit_dec (fun c4 => ?_) (fun c4 => ?_)
    ·exact ⟨by rw [e2, decide_eq_false (fun h => by have := h.1; omega)]; rfl, H1.below⟩
    ·refine H1.ld (i := 0) rfl rfl ?_
     refine bsplit_dec (fun c3 => ?_) (fun c3 => ?_)
     ·exact ⟨by rw [e2, decide_eq_false (fun h => by have := h.1; omega)]; rfl, H1.below⟩
     ·refine H1.ldS (i := 0) rfl rfl ?_
      refine H1.ld (i := 0) rfl rfl ?_
      refine bsplit_dec (fun c2 => ?_) (fun c2 => ?_)
      ·exact ⟨by rw [e2, decide_eq_false (fun h => by have := h.1; omega)]; rfl, H1.below⟩
      ·exact ⟨H1, .inr ⟨by omega, by omega, by omega⟩⟩
   ·exact ⟨H1, .inl c5⟩
end
end Go.Proofs.YtmbppohkadmjgaaGreat
namespace Go.Sx
theorem behind_iff {s : Rc} {n : Int} (hb : bitsOk s.lk.bits) (hn : snOk s.lk.bits n) (hx : snOk s.lk.bits s.next) (hlt : s.place n < s.place s.next) : s.behind n = s.next ↔ s.place n = s.place s.next - 1 := by
 unfold Rc.behind Rc.place way snOk at *
 rcases pow_bits hb with h | h | h | h | h <;> rw [h] at hn hx hlt ⊢ <;> omega
theorem placeR_zero {s : Rc} {n : Int} (hb : bitsOk s.lk.bits) (hn : snOk s.lk.bits n) (hf : snOk s.lk.bits s.first) : s.place n = 0 ↔ n = s.first := by
 unfold Rc.place way snOk at *
 rcases pow_bits hb with h | h | h | h | h <;> rw [h] at hn hf ⊢ <;> omega
theorem placeR_range (s : Rc) (n : Int) : 0 <= s.place n /\ s.place n < 2 ^ s.lk.bits.toNat := way_range _ _ _
def chkB (s : Rc) (last : Int) (p : Pa) : Bool := decide (snOk s.lk.bits p.sn /\ last < s.place p.sn /\ s.place p.sn < s.place s.next) && paB p
def hdB (s : Rc) (p : Pa) : Bool := !p.done || !decide (p.sn = s.first)
theorem paAt_eq (s : Rc) (last : Int) (p : Pa) : paAt s last p = (hdB s p && chkB s last p) := by
 unfold paAt hdB chkB
 rw [Bool.and_comm (decide _) (_ || _), Bool.and_assoc]
theorem paAt_pos {s : Rc} {last : Int} {p : Pa} (hb : bitsOk s.lk.bits) (hf : snOk s.lk.bits s.first) (hl : 0 <= last) : paAt s last p = chkB s last p := by
 rw [paAt_eq]
 by_cases h : snOk s.lk.bits p.sn /\ last < s.place p.sn /\ s.place p.sn < s.place s.next
 ·have : hdB s p = true := by
   unfold hdB
   rw [decide_eq_false, Bool.not_false, Bool.or_true]
   intro e
   have := (placeR_zero hb h.1 hf).2 e
   omega
  rw [this, Bool.true_and]
 ·rw [chkB, decide_eq_false h]; simp
def tailB (s : Rc) : Nat -> Bool
 | 0 => ((s.parts[0]?).map (chkB s (-1))).getD true && paFrom s (lastP s s.parts 1) (s.parts.drop 1)
 | k + 1 => paFrom s (lastP s s.parts (k + 1)) (s.parts.drop (k + 1))
theorem tail_zero {s : Rc} (h : 0 < s.parts.length) : paFrom s (-1) s.parts = (hdB s s.parts[0] && tailB s 0) := by
 have := paFrom_drop s s.parts 0 (-1) h
 rw [List.drop_zero] at this
 rw [this, paAt_eq, Bool.and_assoc]
 simp only [tailB, List.getElem?_eq_getElem h, Option.map_some, Option.getD_some]
theorem tail_step {s : Rc} {k : Nat} (hb : bitsOk s.lk.bits) (hf : snOk s.lk.bits s.first) (h : k < s.parts.length) : tailB s k = (chkB s (lastP s s.parts k) s.parts[k] && tailB s (k + 1)) := by
 cases k with
 | zero =>
  simp only [tailB, List.getElem?_eq_getElem h, Option.map_some, Option.getD_some]
  rfl
 | succ k =>
  have e : tailB s (k + 1) = paFrom s (lastP s s.parts (k + 1)) (s.parts.drop (k + 1)) := rfl
  have h0 : 0 <= lastP s s.parts (k + 1) := by rw [lastP_succ (by omega)]; exact (placeR_range s _).1
  rw [e, paFrom_drop _ _ _ _ h, paAt_pos hb hf h0]; rfl
def SmP (L : List Pa) : Prop := L.length <= 140737488355328 /\ ∀ x ∈ L, x.come.length <= 140737488355328 /\ x.data.length <= 140737488355328
end Go.Sx
namespace Go.Proofs.YtmbppohkadmjgaaGreat
open Go.Sx Go.RowKit
set_option maxRecDepth 100000
section
variable {s : Rc} {a : Option Addr} {c : Nat} {s_b s_o : Nat} {w : World}
theorem receiver_side_partials_ct (hc : cellsAt w ⟨s_b, s_o, none⟩ 0 (encRc s a c)) (hu : PaR w a s.parts) (hb : bitsOk s.lk.bits) (hf : snOk s.lk.bits s.first) (hnx : snOk s.lk.bits s.next) (hl : SmP s.parts) :
 Calls Tryz.prog N_receiver_side_partials #[(.pointer (some ⟨s_b, s_o, none⟩))] w fun e w' => e = .returned (.bool (paFrom s (-1) s.parts)) /\ Below w.heap.size w w' := by
 apply F_receiver_side_partials_ok
 unfold F_receiver_side_partials
 have H := St.nil w
 obtain ⟨hl0, hl1⟩ := hl
 have hp := pow_bits hb
 refine ⟨_, _, _, lq (j := 13) (cells_below hc H.below) rfl, ?_⟩
 refine bsplit_dec (fun c8 => ?_) (fun c8 => ?_)
 ·refine H.drew ?_; clear H; intro w1 H1
  refine ⟨_, lq (j := 7) (cells_below hc H1.below) rfl, ?_⟩
  refine ⟨_, lq (j := 6) (cells_below hc H1.below) rfl, ?_⟩
  refine kLet_in ?_
  have hnil : s.parts = [] := List.eq_nil_of_length_eq_zero (by omega)
  refine ⟨?_, H1.below⟩
  have hz := placeR_zero hb hnx hf
  rw [hnil, paFrom, decide_eq_decide.2 (show -1 = s.place s.next - 1 ↔ s.next = s.first by rw [<- hz]; omega)]
 ·have hpos : 0 < s.parts.length := by omega
  rw [tail_zero hpos]
  refine ⟨_, _, _, lq (j := 13) (cells_below hc H.below) rfl, ?_⟩
  refine ⟨fun x3 => ((s.parts.length - x3).toNat, fun w2 => ∃ k : Nat, x3 = k /\ k <= s.parts.length /\ tailB s 0 = tailB s k /\ (∀ j (hj : j < s.parts.length), j < k -> snOk s.lk.bits s.parts[j].sn /\ s.place s.parts[j].sn < s.place s.next) /\ FreshR w w2 []), ⟨0, rfl, by omega, rfl, fun j _ h => by omega, H⟩, ?_⟩
  clear H
  rintro _ x3 w2 ⟨k, rfl, hk, hT, hno, H2⟩
  refine bsplit_dec (fun c7 => ?_) (fun c7 => ?_)
  ·have hlt : k < s.parts.length := by omega
   have hm := List.getElem_mem hlt
   rw [tail_step hb hf hlt] at hT
   obtain ⟨x, hx⟩ : ∃ x, x = s.parts[k] := ⟨_, rfl⟩
   rw [<- hx] at hm hT
   refine ixPa hu k rfl hlt fun b hb' => ?_
   rw [<- hx] at hb'
   obtain ⟨a1, c1, a2, c2, hb', hd, hr, hcap⟩ := hb'
   obtain ⟨hxl, hxd⟩ := hl1 x hm
   refine ⟨_, _, _, _, _, _, _, _, _, cells_below hb' H2.below, ?_⟩
   refine H2.alloc ?_; clear H2; intro b1 w3 H3
   refine H3.store (i := 0) rfl (by rfl) (by rfl) ?_; clear H3; intro w4 H4
   refine ⟨fun x10 w12 => St (fun _ => False) [] w w12 [.blk b1 Ty_api_Partial (encPa x a1 c1 a2 c2)] (fun _ => True) /\ x10 = !chkB s (lastP s s.parts k) x, ?_, ?_⟩
   ·rintro _ x10 w12 ⟨H12, rfl⟩
    refine bsplit_intro (fun c4 => ?_) (fun c4 => ?_)
    ·have c4 : chkB s (lastP s s.parts k) x = false := by simpa using c4
     exact ⟨by rw [hT, c4]; simp, H12.below⟩
    ·have c4 : chkB s (lastP s s.parts k) x = true := by simpa using c4
     refine kW_i64 (by omega) ?_
     refine ⟨⟨k + 1, by omega, by omega, by rw [hT, c4, Bool.true_and], fun j hj h => ?_, St.dropLast (R := []) H12⟩, by dsimp only; omega⟩
     rcases Nat.lt_or_ge j k with h' | h'
     ·exact hno j hj h'
     ·obtain rfl : j = k := by omega
      unfold chkB at c4
      rw [Bool.and_eq_true, decide_eq_true_iff] at c4
      rw [<- hx]
      exact ⟨c4.1.1, c4.1.2.2⟩
   ·have bad : ∀ {w' : World}, ¬ (snOk s.lk.bits x.sn /\ lastP s s.parts k < s.place x.sn /\ s.place x.sn < s.place s.next) \/ paB x = false -> St (fun _ => False) [] w w' [.blk b1 Ty_api_Partial (encPa x a1 c1 a2 c2)] (fun _ => True) -> St (fun _ => False) [] w w' [.blk b1 Ty_api_Partial (encPa x a1 c1 a2 c2)] (fun _ => True) /\ true = !chkB s (lastP s s.parts k) x := fun h H => ⟨H, by
     unfold chkB
     rcases h with h | h
     ·rw [decide_eq_false h]; rfl
     ·rw [h, Bool.and_false]; rfl⟩
    refine H4.drew ?_; clear H4; intro w5 H5
    refine ⟨(· < w5.heap.size), ?_⟩
    refine H5.ld (i := 0) rfl rfl ?_
    refine (receiver_side_number_ct (cells_below hc H5.below) hb).mono ?_
    rintro _ w6 ⟨rfl, hb6⟩; have H6 := H5.pass hb6
    refine ⟨_, rfl, ?_⟩
    refine ⟨hb6.keeps, ?_⟩
    refine bsplit_nd (fun c3 => ?_) (fun c3 => ?_)
    ·exact bad (.inl fun h => c3 h.1) H6
    ·refine ⟨H5.lt (i := 0) rfl rfl, ?_⟩
     refine ⟨_, _, _, _, _, _, _, _, _, H5.cells (i := 0) rfl, ?_⟩
     refine (receiver_partial_ct (hd.below H6.below) (hr.belowE H6.below) hcap hxl hxd).mono ?_
     rintro _ w7 ⟨rfl, hb7⟩; have H7 := H6.pass hb7
     refine ⟨_, rfl, ?_⟩
     replace hb7 := below_step hb6 (Nat.le_refl _) hb7
     refine ⟨hb7.keeps, ?_⟩
     refine bsplit_n (fun c2 => ?_) (fun c2 => ?_)
     ·exact bad (.inr c2) H7
     ·refine ⟨H5.lt (i := 0) rfl rfl, ?_⟩
      refine H5.ld (i := 0) rfl rfl ?_
      refine ⟨cells_lt (cells_below hc H5.below), ?_⟩
      refine ⟨_, lq (j := 7) (cells_below hc H5.below) rfl, ?_⟩
      refine (receiver_side_place_ct (cells_below hc H7.below) hb).mono ?_
      rintro _ w8 ⟨rfl, hb8⟩; have H8 := H7.pass hb8
      refine ⟨_, rfl, ?_⟩
      replace hb8 := below_step hb7 (Nat.le_refl _) hb8
      refine ⟨hb8.keeps, ?_⟩
      refine (receiver_side_place_ct (cells_below hc H8.below) hb).mono ?_
      rintro _ w9 ⟨rfl, hb9⟩; have H9 := H8.pass hb9
      refine ⟨_, rfl, ?_⟩
      replace hb9 := below_step hb8 (Nat.le_refl _) hb9
      refine ⟨hb9.keeps, ?_⟩
      refine bsplit_dec (fun c1 => ?_) (fun c1 => ?_)
      ·exact bad (.inl fun h => by omega) H9
      ·refine bsplit_dec (fun c => ?_) (fun c => ?_)
       ·refine ⟨H5.lt (i := 0) rfl rfl, ?_⟩
        refine H5.ld (i := 0) rfl rfl ?_
        refine ⟨cells_lt (cells_below hc H5.below), ?_⟩
        refine ⟨_, _, _, lq (j := 13) (cells_below hc H5.below) rfl, ?_⟩
        refine kW_i64 (by omega) ?_
        have hlt1 : k - 1 < s.parts.length := by omega
        have el : lastP s s.parts k = s.place s.parts[k - 1].sn := by
         have e : ∀ m, k = m + 1 -> ∀ hm : m < s.parts.length, lastP s s.parts k = s.place s.parts[m].sn := by rintro m rfl hm; exact lastP_succ hm
         exact e (k - 1) (by omega) hlt1
        refine ixPa hu (k - 1) (by omega) hlt1 fun b2 hb2 => ?_
        obtain ⟨a3, c3', a4, c4', hb2, _, _, _⟩ := hb2
        have hb2 := cells_below hb2 H5.below
        refine ⟨by have h9 := cell_lt (cellsAt_get hb2 0 _ rfl); rw [add_block] at h9; exact h9, ?_⟩
        refine ⟨_, by have := cellsAt_get hb2 0 _ rfl; rwa [add_add] at this, ?_⟩
        refine (receiver_side_place_ct (cells_below hc H9.below) hb).mono ?_
        rintro _ w10 ⟨rfl, hb10⟩; have H10 := H9.pass hb10
        refine ⟨_, rfl, ?_⟩
        replace hb10 := below_step hb9 (Nat.le_refl _) hb10
        refine ⟨hb10.keeps, ?_⟩
        refine (receiver_side_place_ct (cells_below hc H10.below) hb).mono ?_
        rintro _ w11 ⟨rfl, hb11⟩; have H11 := H10.pass hb11
        refine ⟨_, rfl, ?_⟩
        replace hb11 := below_step hb10 (Nat.le_refl _) hb11
        refine ⟨hb11.keeps, ?_⟩
        refine ⟨H11, ?_⟩
        unfold chkB
        rw [c2, Bool.and_true, <- decide_not, decide_eq_decide, el]
        constructor
        ·intro h h'; omega
        ·intro h
         rcases Int.lt_or_le (s.place s.parts[k - 1].sn) (s.place x.sn) with h' | h'
         ·exact absurd ⟨c3, h', by omega⟩ h
         ·exact h'
       ·refine ⟨H9, ?_⟩
        obtain rfl : k = 0 := by omega
        unfold chkB
        rw [c2, Bool.and_true, decide_eq_true ⟨c3, by have := (placeR_range s x.sn).1; show -1 < _; omega, by omega⟩]; rfl
  ·obtain rfl : k = s.parts.length := by omega
   have hlt1 : s.parts.length - 1 < s.parts.length := by omega
   obtain ⟨g1, g2⟩ := hno _ hlt1 (by omega)
   obtain ⟨y, hy⟩ : ∃ y, y = s.parts[s.parts.length - 1] := ⟨_, rfl⟩
   rw [<- hy] at g1 g2
   have eT : tailB s 0 = decide (s.behind y.sn = s.next) := by
    have e : ∀ m, s.parts.length = m + 1 -> ∀ hm : m < s.parts.length, tailB s s.parts.length = decide (s.place s.parts[m].sn = s.place s.next - 1) := by
     intro m em hm
     have e1 : tailB s (m + 1) = paFrom s (lastP s s.parts (m + 1)) (s.parts.drop (m + 1)) := rfl
     rw [em, e1, <- em, List.drop_length, em, lastP_succ hm]; rfl
    rw [hT, e _ (by omega) hlt1, <- hy, decide_eq_decide.2 (behind_iff hb g1 hnx g2)]
   obtain ⟨x, hx⟩ : ∃ x, x = s.parts[0] := ⟨_, rfl⟩
   rw [<- hx, eT]
   have hyr : 0 <= y.sn /\ y.sn <= 512 := by unfold snOk at g1; omega
   refine ⟨_, _, _, lq (j := 13) (cells_below hc H2.below) rfl, ?_⟩
   refine ixPa hu 0 rfl hpos fun b3 hb3 => ?_
   rw [<- hx] at hb3
   obtain ⟨a1, c1, a2, c2, hb3, _, _, _⟩ := hb3
   refine ⟨_, _, _, _, _, _, _, _, _, cells_below hb3 H2.below, ?_⟩
   refine H2.alloc ?_; clear H2; intro b4 w13 H13
   refine H13.store (i := 0) rfl (by rfl) (by rfl) ?_; clear H13; intro w14 H14
   refine H14.drew ?_; clear H14; intro w15 H15
   refine ⟨(· < w15.heap.size), ?_⟩
   refine H15.ldB (i := 0) rfl rfl ?_
   refine bsplit_intro (fun c6 => ?_) (fun c6 => ?_)
   ·refine H15.ld (i := 0) rfl rfl ?_
    refine ⟨_, lq (j := 6) (cells_below hc H15.below) rfl, ?_⟩
    refine bsplit_nd (fun c5 => ?_) (fun c5 => ?_)
    ·refine ⟨_, _, _, lq (j := 13) (cells_below hc H15.below) rfl, ?_⟩
     refine kW_i64 (by omega) ?_
     refine ixPa hu (s.parts.length - 1) (by omega) hlt1 fun b5 hb5 => ?_
     rw [<- hy] at hb5
     obtain ⟨a3, c3', a4, c4', hb5, _, _, _⟩ := hb5
     have hb5 := cells_below hb5 H15.below
     refine ⟨_, by have := cellsAt_get hb5 0 _ rfl; rwa [add_add] at this, ?_⟩
     refine ⟨cells_lt (cells_below hc H15.below), ?_⟩
     refine ⟨_, lq (j := 7) (cells_below hc H15.below) rfl, ?_⟩
     refine (receiver_side_behind_ct (cells_below hc H15.below) hb (by omega)).mono ?_
     rintro _ w16 ⟨rfl, hb16⟩; have H16 := H15.pass hb16
     refine ⟨_, rfl, ?_⟩
     refine ⟨hb16.keeps, ?_⟩
     refine kLet_in ?_
     exact ⟨by rw [hdB, decide_eq_false c5]; simp, H16.below⟩
    ·exact ⟨by rw [hdB, c6, decide_eq_true c5]; simp, H15.below⟩
   ·refine ⟨_, _, _, lq (j := 13) (cells_below hc H15.below) rfl, ?_⟩
    refine kW_i64 (by omega) ?_
    refine ixPa hu (s.parts.length - 1) (by omega) hlt1 fun b6 hb6 => ?_
    rw [<- hy] at hb6
    obtain ⟨a3, c3', a4, c4', hb6, _, _, _⟩ := hb6
    have hb6 := cells_below hb6 H15.below
    refine ⟨_, by have := cellsAt_get hb6 0 _ rfl; rwa [add_add] at this, ?_⟩
    refine ⟨cells_lt (cells_below hc H15.below), ?_⟩
    refine ⟨_, lq (j := 7) (cells_below hc H15.below) rfl, ?_⟩
    refine (receiver_side_behind_ct (cells_below hc H15.below) hb (by omega)).mono ?_
    rintro _ w17 ⟨rfl, hb17⟩; have H17 := H15.pass hb17
    refine ⟨_, rfl, ?_⟩
    refine ⟨hb17.keeps, ?_⟩
    refine kLet_in ?_
    exact ⟨by rw [hdB, c6]; simp, H17.below⟩
end
end Go.Proofs.YtmbppohkadmjgaaGreat
namespace Go.Proofs.YtmbppohkadmjgaaGreat
open Go.Sx Go.RowKit
set_option maxRecDepth 100000
theorem head_no {s : Rc} (h : ¬ (lkOk s.lk /\ snOk s.lk.bits s.first /\ snOk s.lk.bits s.next /\ snOk s.lk.bits s.upto /\ s.place s.next <= 2 ^ (s.lk.bits - 1).toNat /\ s.place s.upto <= s.place s.next /\ 0 <= s.quiet /\ s.quiet <= s.lk.quiet)) : s.okB = false := by
 unfold Rc.okB headB; rw [decide_eq_false h]; rfl
section
variable {s : Rc} {a : Option Addr} {c : Nat} {w : World}
theorem receiver_Valid_ct (hu : PaR w a s.parts) (hl : SmP s.parts) :
 Calls Tryz.prog N_receiver_Valid #[aggRc s a c] w fun e w' => e = .returned (.bool s.okB) /\ Below w.heap.size w w' := by
 apply F_receiver_Valid_ok
 unfold F_receiver_Valid
 have H := St.nil w
 refine H.alloc ?_; clear H; intro b w1 H1
 refine ⟨_, _, _, _, _, _, _, _, _, _, _, _, _, _, _, _, H1.cells (i := 0) rfl, ?_⟩
 refine H1.alloc ?_; clear H1; intro b1 w2 H2
 replace H2 : St (fun _ => False) [] w w2 [.blk b Ty_api_Receiver (encRc s a c), .blk b1 Ty_receiver_side (encRc s a c)] (fun _ => True) := H2
 refine ⟨fun w7 => St (fun _ => False) [] w w7 [.blk b Ty_api_Receiver (encRc s a c), .blk b1 Ty_receiver_side (encRc s a c)] (fun _ => True) /\ lkOk s.lk /\ snOk s.lk.bits s.first /\ snOk s.lk.bits s.next /\ snOk s.lk.bits s.upto, ?_, ?_⟩
 ·rintro _ w7 ⟨H7, hj1, hj2, hj3, hj4⟩
  have hb := hj1.1
  have hb' := hb
  obtain ⟨hb1, hb2⟩ := hb'
  refine H7.ld (i := 0) rfl rfl ?_
  refine (receiver_side_place_ct (H7.cells (i := 1) rfl) hb).mono ?_
  rintro _ w8 ⟨rfl, hb8⟩; have H8 := H7.pass hb8; clear H7
  refine ⟨_, rfl, ?_⟩
  refine ⟨fun x11 w11 => St (fun _ => False) [] w w11 [.blk b Ty_api_Receiver (encRc s a c), .blk b1 Ty_receiver_side (encRc s a c)] (fun _ => True) /\ x11 = !(headB s && paFrom s (-1) s.parts), ?_, ?_⟩
  ·rintro _ x11 w11 ⟨H11, rfl⟩
   refine bsplit_intro (fun c13 => ?_) (fun c13 => ?_)
   ·have c13 : (headB s && paFrom s (-1) s.parts) = false := by rw [Bool.not_eq_true'] at c13; exact c13
    exact ⟨by rw [Rc.okB, c13]; rfl, H11.below⟩
   ·have c13 : (headB s && paFrom s (-1) s.parts) = true := by rw [Bool.not_eq_false'] at c13; exact c13
    have e : s.okB = markB s := by rw [Rc.okB, c13, Bool.true_and]
    rw [e]
    refine H11.ld (i := 0) rfl rfl ?_
    refine bsplit_dec (fun c12 => ?_) (fun c12 => ?_)
    ·refine H11.ld (i := 0) rfl rfl ?_
     refine kLet_in ?_
     exact ⟨by rw [markB, if_pos c12], H11.below⟩
    ·refine H11.ld (i := 0) rfl rfl ?_
     refine (receiver_side_number_ct (H11.cells (i := 1) rfl) hb).mono ?_
     rintro _ w12 ⟨rfl, hb12⟩; have H12 := H11.pass hb12; clear H11
     refine ⟨_, rfl, ?_⟩
     refine bsplit_dec (fun c11 => ?_) (fun c11 => ?_)
     ·refine H12.ld (i := 0) rfl rfl ?_
      refine (receiver_side_place_ct (H12.cells (i := 1) rfl) hb).mono ?_
      rintro _ w13 ⟨rfl, hb13⟩; have H13 := H12.pass hb13; clear H12
      refine ⟨_, rfl, ?_⟩
      refine bsplit_dec (fun c10 => ?_) (fun c10 => ?_)
      ·refine H13.ld (i := 0) rfl rfl ?_
       refine (receiver_side_place_ct (H13.cells (i := 1) rfl) hb).mono ?_
       rintro _ w14 ⟨rfl, hb14⟩; have H14 := H13.pass hb14; clear H13
       refine ⟨_, rfl, ?_⟩
       refine bsplit_dec (fun c9 => ?_) (fun c9 => ?_)
       ·refine H14.ld (i := 0) rfl rfl ?_
        refine bsplit_dec (fun c8 => ?_) (fun c8 => ?_)
        ·refine H14.ld (i := 0) rfl rfl ?_
         refine H14.ld (i := 0) rfl rfl ?_
         refine kLet_in ?_
         exact ⟨by rw [markB, if_neg c12]; exact retD ⟨fun h => ⟨c11, c10, c9, c8, h⟩, fun h => h.2.2.2.2⟩, H14.below⟩
        ·exact ⟨by rw [markB, if_neg c12]; exact retF (fun h => c8 h.2.2.2.1), H14.below⟩
       ·exact ⟨by rw [markB, if_neg c12]; exact retF (fun h => c9 h.2.2.1), H14.below⟩
      ·exact ⟨by rw [markB, if_neg c12]; exact retF (fun h => c10 h.2.1), H13.below⟩
     ·exact ⟨by rw [markB, if_neg c12]; exact retF (fun h => c11 h.1), H12.below⟩
  ·have bad : ∀ {w' : World}, ¬ (s.place s.next <= 2 ^ (s.lk.bits - 1).toNat /\ s.place s.upto <= s.place s.next /\ 0 <= s.quiet /\ s.quiet <= s.lk.quiet) -> St (fun _ => False) [] w w' [.blk b Ty_api_Receiver (encRc s a c), .blk b1 Ty_receiver_side (encRc s a c)] (fun _ => True) -> St (fun _ => False) [] w w' [.blk b Ty_api_Receiver (encRc s a c), .blk b1 Ty_receiver_side (encRc s a c)] (fun _ => True) /\ true = !(headB s && paFrom s (-1) s.parts) := fun h H => ⟨H, by
    unfold headB
    rw [decide_eq_false (fun h' => h h'.2.2.2.2)]; rfl⟩
   refine H8.ld (i := 0) rfl rfl ?_
   refine kW_i64 (by omega) ?_
   refine ⟨by omega, ?_⟩
   refine kShl1 (by omega) ?_
   refine bsplit_dec (fun c7 => ?_) (fun c7 => ?_)
   ·exact bad (fun h => by omega) H8
   ·refine H8.ld (i := 0) rfl rfl ?_
    refine (receiver_side_place_ct (H8.cells (i := 1) rfl) hb).mono ?_
    rintro _ w9 ⟨rfl, hb9⟩; have H9 := H8.pass hb9; clear H8
    refine ⟨_, rfl, ?_⟩
    refine bsplit_dec (fun c6 => ?_) (fun c6 => ?_)
    ·exact bad (fun h => by omega) H9
    ·refine H9.ld (i := 0) rfl rfl ?_
     refine bsplit_dec (fun c5 => ?_) (fun c5 => ?_)
     ·exact bad (fun h => by omega) H9
     ·refine H9.ld (i := 0) rfl rfl ?_
      refine H9.ld (i := 0) rfl rfl ?_
      refine bsplit_dec (fun c4 => ?_) (fun c4 => ?_)
      ·exact bad (fun h => by omega) H9
      ·refine (receiver_side_partials_ct (H9.cells (i := 1) rfl) (paR_below hu H9.below) hb hj2 hj3 hl).mono ?_
       rintro _ w10 ⟨rfl, hb10⟩; have H10 := H9.pass hb10; clear H9
       refine ⟨_, rfl, ?_⟩
       refine ⟨H10, ?_⟩
       rw [headB, decide_eq_true ⟨hj1, hj2, hj3, hj4, by omega, by omega, by omega, by omega⟩, Bool.true_and]
 ·refine ⟨_, _, _, _, _, _, H2.cellsAt (i := 0) rfl (by rfl), ?_⟩
  refine sender_ValidLink_ct.mono ?_
  rintro _ w3 ⟨rfl, hb3⟩; have H3 := H2.pass hb3; clear H2
  refine ⟨_, rfl, ?_⟩
  refine bsplit_nd (fun c3 => ?_) (fun c3 => ?_)
  ·exact ⟨by rw [head_no fun h => c3 h.1], H3.below⟩
  ·have hb := c3.1
   refine H3.ld (i := 0) rfl rfl ?_
   refine (receiver_side_number_ct (H3.cells (i := 1) rfl) hb).mono ?_
   rintro _ w4 ⟨rfl, hb4⟩; have H4 := H3.pass hb4; clear H3
   refine ⟨_, rfl, ?_⟩
   refine bsplit_nd (fun c2 => ?_) (fun c2 => ?_)
   ·exact ⟨by rw [head_no fun h => c2 h.2.1], H4.below⟩
   ·refine H4.ld (i := 0) rfl rfl ?_
    refine (receiver_side_number_ct (H4.cells (i := 1) rfl) hb).mono ?_
    rintro _ w5 ⟨rfl, hb5⟩; have H5 := H4.pass hb5; clear H4
    refine ⟨_, rfl, ?_⟩
    refine bsplit_nd (fun c1 => ?_) (fun c1 => ?_)
    ·exact ⟨by rw [head_no fun h => c1 h.2.2.1], H5.below⟩
    ·refine H5.ld (i := 0) rfl rfl ?_
     refine (receiver_side_number_ct (H5.cells (i := 1) rfl) hb).mono ?_
     rintro _ w6 ⟨rfl, hb6⟩; have H6 := H5.pass hb6; clear H5
     refine ⟨_, rfl, ?_⟩
     refine bsplit_nd (fun c => ?_) (fun c => ?_)
     ·exact ⟨by rw [head_no fun h => c h.2.2.2.1], H6.below⟩
     ·exact ⟨H6, c3, c2, c1, c⟩
theorem mark_iff {s : Rc} : markB s = true ↔ (s.mark = -1 /\ s.left = 0) \/ (s.mark ≠ -1 /\ snOk s.lk.bits s.mark /\ 1 <= s.place s.mark /\ s.place s.mark <= s.place s.next /\ 1 <= s.left /\ s.left <= s.lk.wait) := by
 unfold markB
 split
 ·rename_i h; simp [h]
 ·rename_i h; simp [h]
end
end Go.Proofs.YtmbppohkadmjgaaGreat
namespace Go.Sx
theorem paFrom_all {s : Rc} : ∀ {L : List Pa} {last : Int}, paFrom s last L = true -> last + L.length <= s.place s.next - 1 /\ ∀ x ∈ L, paB x = true /\ snOk s.lk.bits x.sn
 | [], last, h => by
  simp only [paFrom, decide_eq_true_eq] at h
  exact ⟨by simp; omega, fun x hx => by simp at hx⟩
 | p :: l, last, h => by
  simp only [paFrom, Bool.and_eq_true] at h
  obtain ⟨h1, h2⟩ := h
  obtain ⟨h3, h4⟩ := paFrom_all h2
  unfold paAt at h1
  simp only [Bool.and_eq_true, decide_eq_true_eq] at h1
  refine ⟨by simp only [List.length_cons]; omega, fun x hx => ?_⟩
  rcases List.mem_cons.1 hx with rfl | hx
  ·exact ⟨h1.2, h1.1.1.1⟩
  ·exact h4 x hx
def FitP (L : List Pa) : Prop := L.length <= 600 /\ ∀ x ∈ L, x.come.length <= 3000 /\ x.data.length <= 3000
theorem paB_fit {x : Pa} (h : paB x = true) : x.come.length <= 2055 /\ x.data.length <= 2054 := by
 unfold paB at h
 split at h
 ·rw [decide_eq_true_iff] at h
  rw [h.2.1, h.2.2]; simp
 ·rw [Bool.and_eq_true, decide_eq_true_iff] at h
  exact ⟨paNum_len h.1, h.1.2.2.2.2.2.1⟩
theorem rc_fit {s : Rc} (h : s.okB = true) : FitP s.parts /\ lkOk s.lk /\ snOk s.lk.bits s.first /\ snOk s.lk.bits s.next /\ snOk s.lk.bits s.upto /\ (0 <= s.quiet /\ s.quiet <= s.lk.quiet) /\ ∀ x ∈ s.parts, paB x = true /\ snOk s.lk.bits x.sn := by
 unfold Rc.okB headB at h
 simp only [Bool.and_eq_true, decide_eq_true_eq] at h
 obtain ⟨⟨⟨h1, h2, h3, h4, h5, h6, h7, h8⟩, hp⟩, _⟩ := h
 have hb := pow_bits1 h1.1
 obtain ⟨h9, h10⟩ := paFrom_all hp
 exact ⟨⟨by omega, fun x hx => by have := paB_fit (h10 x hx).1; omega⟩, h1, h2, h3, h4, ⟨h7, h8⟩, h10⟩
theorem FitP.sm {L : List Pa} (h : FitP L) : SmP L := ⟨by have := h.1; omega, fun x hx => by have := h.2 x hx; omega⟩
end Go.Sx
namespace Go.Proofs.YtmbppohkadmjgaaGreat
open Go.Sx Go.RowKit
set_option maxRecDepth 100000
structure PP where
 p : Pa
 a : Option Addr
 c : Nat
 a2 : Option Addr
 c2 : Nat
def encPP (x : PP) : List Value := encPa x.p x.a x.c x.a2 x.c2
theorem encPP_ok : Enc encPP 5 := ⟨fun _ => rfl, fun _ => rfl⟩
def agP (x : PP) : Res := .ints Ty_uint8 .u8 x.a x.c x.p.data
def CoR (L : List PP) (w : World) : Prop := ∀ x ∈ L, SlR (CE encR) 3 w x.a2 x.p.come
def DaP (L : List PP) (w : World) : Prop := ∀ x ∈ L, SlR (IntC .u8) 1 w x.a x.p.data /\ x.p.data.length <= x.c
theorem cap_ints {w : World} {e : TypeId} {k : IntKind} {a : Option Addr} {c : Nat} {ys : List Int} (h : (Res.ints e k a c ys).ok w) : ys.length <= c := by
 have h : Own w 0 e 1 a ys.length c (ys.map (Value.int k)) := h
 rcases h.2 with ⟨hv, h0⟩ | ⟨g, cap, cur, hv, _, _, hnc, _⟩
 ·omega
 ·injection hv with _ _ h3; omega
theorem paR_up {w : World} {a : Option Addr} {L : List Pa} (h : PaR w a L) : ∃ P : List PP, P.map (·.p) = L /\ SlR (CE encPP) 5 w a P /\ DaP P w /\ CoR P w := by
 rcases h with rfl | ⟨b, rfl, hb⟩
 ·exact ⟨[], rfl, .inl rfl, fun x hx => by simp at hx, fun x hx => by simp at hx⟩
 obtain ⟨P, hP, hq⟩ := choose_list (Q := fun i (x : PP) => ∃ h : i < L.length, x.p = L[i] /\ cellsAt w (b.add (i * 5)) 0 (encPP x) /\ (SlR (IntC .u8) 1 w x.a x.p.data /\ x.p.data.length <= x.c) /\ SlR (CE encR) 3 w x.a2 x.p.come) L.length fun i hi => by
  obtain ⟨a, c, a2, c2, h1, h2, h3, h4⟩ := hb i hi
  exact ⟨⟨L[i], a, c, a2, c2⟩, hi, rfl, h1, ⟨h2, h4⟩, h3⟩
 refine ⟨P, ?_, .inr ⟨b, rfl, fun i hi => ?_⟩, fun x hx => ?_, fun x hx => ?_⟩
 ·apply List.ext_getElem (by simpa using hP)
  intro i h1 h2
  obtain ⟨_, e, _⟩ := hq i (by simpa using h1)
  simpa using e
 ·obtain ⟨_, _, h, _⟩ := hq i hi; exact h
 ·obtain ⟨i, hi, rfl⟩ := List.getElem_of_mem hx
  obtain ⟨_, _, _, h, _⟩ := hq i hi; exact h
 ·obtain ⟨i, hi, rfl⟩ := List.getElem_of_mem hx
  obtain ⟨_, _, _, _, h⟩ := hq i hi; exact h
theorem up_paR {w : World} {a : Option Addr} {P : List PP} (h : SlR (CE encPP) 5 w a P) (hd : DaP P w) (hr : CoR P w) : PaR w a (P.map (·.p)) := by
 rcases h with rfl | ⟨b, rfl, hb⟩
 ·exact .inl rfl
 refine .inr ⟨b, rfl, fun i hi => ?_⟩
 have hi' : i < P.length := by simpa using hi
 have := List.getElem_mem hi'
 rw [List.getElem_map]
 exact ⟨P[i].a, P[i].c, P[i].a2, P[i].c2, hb i hi', (hd _ this).1, hr _ this, (hd _ this).2⟩
theorem shareDa {A0 : Nat -> Prop} {w0 w : World} : ∀ {L : List PP} {R : List Res} {P : World -> Prop}, St A0 [] w0 w (R ++ L.map agP) P -> St A0 [] w0 w R fun w => DaP L w /\ P w
 | [], R, P, H => by
  have := H.imp (Q := fun w => DaP [] w /\ P w) fun _ h => ⟨fun x hx => by simp at hx, h⟩
  simpa using this
 | x :: L, R, P, H => by
  have e : (R ++ (x :: L).map agP)[R.length]? = some (agP x) := by simp
  have K := (H.share e).sub (R' := R ++ L.map agP) (fun i => if i < R.length then i else i + 1) (fun i r hi => by
   by_cases h : i < R.length
   ·rw [List.getElem?_append_left h] at hi
    rw [if_pos h, List.getElem?_set_ne (by omega), List.getElem?_append_left h]; exact hi
   ·rw [List.getElem?_append_right (by omega)] at hi
    rw [if_neg h, List.getElem?_set_ne (by omega), List.getElem?_append_right (by omega), show i + 1 - R.length = (i - R.length) + 1 by omega]
    simpa using hi) (fun i j _ _ h => by
   by_cases h1 : i < R.length <;> by_cases h2 : j < R.length <;> simp only [h1, h2, if_true, if_false] at h <;> omega)
  have K2 := shareDa K
  exact K2.imp fun _ h => ⟨fun y hy => by
   rcases List.mem_cons.1 hy with rfl | hy
   ·exact ⟨(ints_ok h.2.1).sl, cap_ints h.2.1⟩
   ·exact h.1 y hy, h.2.2⟩
theorem readP {A0 : Nat -> Prop} {w0 w : World} {X : List Res} {P : World -> Prop} {L : List PP} {ua : Option Addr} {uc : Nat} (H : St A0 [] w0 w (X ++ .els encPP Ty_api_Partial 5 ua uc L :: L.map agP) P) (hc : ∀ w, P w -> CoR L w) : PaR w ua (L.map (·.p)) := by
 have H' : St A0 [] w0 w ((X ++ [.els encPP Ty_api_Partial 5 ua uc L]) ++ L.map agP) P := by simpa using H
 have K := shareDa H'
 exact up_paR (K.slE (e := Ty_api_Partial) (c := uc) encPP_ok (i := X.length) (by simp)) K.get.1 (hc _ K.get.2)
theorem clone_parts {L : List PP} {s_a : Option Addr} {s_c : Nat} {w : World} (hs : SlR (CE encPP) 5 w s_a L) (hl : L.length <= 1000000) :
 Calls Tryz.prog N_slices_Clone_Sapi_Partial_api_Partial #[(.slice s_a L.length s_c)] w fun e w' => ∃ ra rc, e = .returned (.slice ra L.length rc) /\ FreshR w w' [.els encPP Ty_api_Partial 5 ra rc L] := by
 apply F_slices_Clone_Sapi_Partial_api_Partial_ok
 unfold F_slices_Clone_Sapi_Partial_api_Partial
 have H := St.nil w
 cases s_a with
 | none =>
  obtain rfl : L = [] := by
   rcases hs with h | ⟨b, hb, _⟩
   ·exact h
   ·cases hb
  exact ⟨none, 0, rfl, H.nilE encPP Ty_api_Partial 5⟩
 | some p =>
  refine bsplit_intro (fun h => by cases h) (fun _ => ?_)
  refine H.alloc ?_; clear H; intro b w1 H1
  have H1 := H1.litE encPP_ok (i := 0) [] rfl (by decide)
  refine H1.appE encPP_ok (i := 0) rfl sl_Ty_S_api_Partial (hs.belowE H1.below) (by simp; omega) (by simp; omega) ?_; intro x_a x_c w2 H2
  exact ⟨x_a, x_c, rfl, H2⟩
def SideP (w : World) (s : Rc) (e : Ending) (w' : World) : Prop :=
 ∃ b ua uc L, L.map (·.p) = s.parts /\ e = .returned (.pointer (some ⟨b, 0, none⟩)) /\
  St (fun _ => False) [] w w' (.blk b Ty_receiver_side (encRc s ua uc) :: .els encPP Ty_api_Partial 5 ua uc L :: L.map agP) (CoR L)
def RetCR (w : World) (x : Rc) (e : Ending) (w' : World) : Prop :=
 ∃ a c L, L.map (·.p) = x.parts /\ e = .returned (aggRc x a c) /\ St (fun _ => False) [] w w' (.els encPP Ty_api_Partial 5 a c L :: L.map agP) (CoR L)
section
variable {s : Rc} {a : Option Addr} {c : Nat} {w : World}
theorem receiver_begin_ct (hu : PaR w a s.parts) (hf : FitP s.parts) :
 Calls Tryz.prog N_receiver_begin #[aggRc s a c] w (SideP w s) := by
 apply F_receiver_begin_ok
 unfold F_receiver_begin
 have H := St.nil w
 obtain ⟨hf1, hf2⟩ := hf
 obtain ⟨L0, hL0, hs0, hd0, hr0⟩ := paR_up hu
 have hlen : L0.length = s.parts.length := by rw [<- hL0, List.length_map]
 refine H.alloc ?_; clear H; intro b w1 H1
 refine H1.ldS (i := 0) rfl rfl ?_
 rw [<- hlen]
 refine (clone_parts (hs0.belowE H1.below) (by omega)).mono ?_
 rintro _ w2 ⟨ua, uc, rfl, K2⟩
 have H2 := H1.callR K2; clear H1
 simp only [List.cons_append, List.nil_append] at H2
 refine ⟨_, _, _, rfl, ?_⟩
 refine H2.set (i := 0) rfl (by show 13 < 14; decide) ?_; clear H2; intro w3 H3
 simp only [List.set_cons_zero] at H3
 replace H3 : St (fun _ => False) [] w w3 [.blk b Ty_api_Receiver (encRc s ua uc), .els encPP Ty_api_Partial 5 ua uc L0] (fun _ => True) := by
  have e : (encRc s a c).set 13 (.slice ua L0.length uc) = encRc s ua uc := by rw [hlen]; rfl
  rw [<- e]; exact H3
 refine H3.ldS (i := 0) rfl rfl ?_
 refine ⟨fun x1 => ((s.parts.length - x1).toNat, fun w5 => ∃ (k : Nat) (L : List PP), x1 = k /\ k <= s.parts.length /\ L.map (·.p) = s.parts /\ L.drop k = L0.drop k /\
  St (fun _ => False) [] w w5 (.blk b Ty_api_Receiver (encRc s ua uc) :: .els encPP Ty_api_Partial 5 ua uc L :: (L.take k).map agP) (CoR (L.take k))),
  ⟨0, L0, rfl, by omega, hL0, rfl, H3.imp fun _ _ => fun x hx => by simp at hx⟩, ?_⟩
 clear H3 K2
 rintro _ x1 w4 ⟨k, L, rfl, hk, hL, hdr, H4⟩
 have hlen5 : L.length = s.parts.length := by rw [<- hL, List.length_map]
 refine bsplit_dec (fun c => ?_) (fun c => ?_)
 ·have hlt : k < L.length := by omega
  have hlt0 : k < L0.length := by omega
  have hx0 : L[k] = L0[k] := by
   have h1 := List.drop_eq_getElem_cons hlt
   have h2 := List.drop_eq_getElem_cons hlt0
   rw [h1, h2] at hdr
   injection hdr
  obtain ⟨x, hx⟩ : ∃ x, x = L[k] := ⟨_, rfl⟩
  have hmem : x ∈ L0 := by rw [hx, hx0]; exact List.getElem_mem _
  have hmu : x.p ∈ s.parts := by rw [<- hL0]; exact List.mem_map.2 ⟨x, hmem, rfl⟩
  obtain ⟨hfr, hfd⟩ := hf2 _ hmu
  refine H4.ldS (i := 0) rfl rfl ?_
  obtain ⟨g, rfl, hg1, hg2⟩ := H4.rowSome (i := 1) rfl (by omega)
  refine kIx_at ⟨by omega, by omega⟩ ?_
  refine H4.drew ?_; clear H4; intro w5 H5
  simp only [elAd]
  refine ⟨fun p => p ∈ [(⟨g, k * 5 + 4, none⟩ : Addr)], ?_⟩
  have c53 := H5.cellEl encPP_ok (i := 1) rfl hlt (j := 3) (v := .slice x.a x.p.data.length x.c) (by decide) (by rw [<- hx]; rfl)
  have c54 := H5.cellEl encPP_ok (i := 1) rfl hlt (j := 4) (v := .slice x.a2 x.p.come.length x.c2) (by decide) (by rw [<- hx]; rfl)
  refine ⟨_, _, _, c53, ?_⟩
  refine ⟨by simp, ?_⟩
  refine ⟨_, _, _, c54, ?_⟩
  refine (clone_bytes ((hd0 x hmem).1.below H5.below) (by omega)).mono ?_
  rintro _ w6 ⟨ra, rc, rfl, K6⟩
  have H6 := H5.callR K6
  simp only [List.cons_append] at H6
  refine ⟨_, _, _, rfl, ?_⟩
  refine ⟨keeps1 c54 (H6.cellEl encPP_ok (i := 1) rfl hlt (j := 4) (by decide) (by rw [<- hx]; rfl)), ?_⟩
  refine (clone_ranges ((hr0 x hmem).belowE H6.below) (by omega)).mono ?_
  rintro _ w7 ⟨ra2, rc2, rfl, K7⟩
  have H7 := St.shareLast (R := .blk b Ty_api_Receiver (encRc s (some ⟨g, 0, none⟩) uc) :: .els encPP Ty_api_Partial 5 (some ⟨g, 0, none⟩) uc L :: ((L.take k).map agP ++ [.ints Ty_uint8 .u8 ra rc x.p.data])) (H6.callR K7)
  refine ⟨_, _, _, rfl, ?_⟩
  refine ⟨keeps1 c54 (H7.cellEl encPP_ok (i := 1) rfl hlt (j := 4) (by decide) (by rw [<- hx]; rfl)), ?_⟩
  refine H7.setEl encPP_ok (i := 1) rfl hlt (j := 3) (by decide) ⟨x.p, ra, rc, x.a2, x.c2⟩ (by rw [<- hx]; rfl) ?_
  intro w8 f8 H8
  simp only [List.set_cons_succ, List.set_cons_zero] at H8
  have hlt9 : k < (L.set k ⟨x.p, ra, rc, x.a2, x.c2⟩).length := by simpa using hlt
  refine ⟨keeps1 c54 (H8.cellEl encPP_ok (i := 1) rfl hlt9 (j := 4) (by decide) (by simp; rfl)), ?_⟩
  refine H8.setEl encPP_ok (i := 1) rfl hlt9 (j := 4) (by decide) ⟨x.p, ra, rc, ra2, rc2⟩ (by simp; rfl) ?_
  intro w9 f9 H9
  simp only [List.set_cons_succ, List.set_cons_zero] at H9
  rw [List.set_set] at H9
  refine kW_i64 (by omega) ?_
  refine ⟨⟨k + 1, L.set k ⟨x.p, ra, rc, ra2, rc2⟩, by omega, by omega, ?_, ?_, ?_⟩, by omega⟩
  ·rw [<- hL]
   apply List.ext_getElem (by simp)
   intro i h1 h2
   simp only [List.getElem_map, List.getElem_set]
   split
   ·rename_i h; subst h; rw [hx]
   ·rfl
  ·rw [drop_set_end]
   have h1 := List.drop_eq_getElem_cons hlt
   have h2 := List.drop_eq_getElem_cons hlt0
   rw [h1, h2] at hdr
   injection hdr
  ·rw [take_set_end hlt, List.map_append]
   exact H9.imp fun _ h => fun y hy => by
    rcases List.mem_append.1 hy with hy | hy
    ·exact h.2 y hy
    ·simp at hy; subst hy; exact els_sl encR_ok h.1
 ·obtain rfl : k = s.parts.length := by omega
  rw [List.take_of_length_le (by omega)] at H4
  refine ⟨_, _, _, _, _, _, _, _, _, _, _, _, _, _, _, _, H4.cells (i := 0) rfl, ?_⟩
  refine H4.alloc ?_; clear H4; intro b2 w10 H10
  refine ⟨b2, ua, uc, L, hL, rfl, ?_⟩
  exact St.skip (X := []) (St.lastTo (X := [_]) H10) |> fun H => H
end
end Go.Proofs.YtmbppohkadmjgaaGreat
namespace Go.Proofs.YtmbppohkadmjgaaGreat
open Go.Sx Go.RowKit
set_option maxRecDepth 100000
def RetR (w : World) (x : Rc) (E : Int) (e : Ending) (w' : World) : Prop :=
 ∃ a c L, L.map (·.p) = x.parts /\ e = .returned (.tuple #[aggRc x a c, .int .i64 E]) /\ St (fun _ => False) [] w w' (.els encPP Ty_api_Partial 5 a c L :: L.map agP) (CoR L)
theorem RetR.read {w w' : World} {x : Rc} {E : Int} {e : Ending} (h : RetR w x E e w') : ∃ a c, e = .returned (.tuple #[aggRc x a c, .int .i64 E]) /\ Fresh w w' fun w => PaR w a x.parts := by
 obtain ⟨a, c, L, hL, he, H⟩ := h
 have K := shareDa (R := [.els encPP Ty_api_Partial 5 a c L]) H
 refine ⟨a, c, he, ?_⟩
 rw [<- hL]
 exact (K.shareE encPP_ok (i := 0) rfl).fin.imp fun _ h => up_paR h.1 h.2.1 h.2.2
theorem finP {A0 : Nat -> Prop} {w w' : World} {P : World -> Prop} {x : Rc} {ua : Option Addr} {uc : Nat} {L : List PP} {X : List Res} (H : St A0 [] w w' (X ++ .els encPP Ty_api_Partial 5 ua uc L :: L.map agP) P) (hP : ∀ w, P w -> CoR L w) :
 St A0 [] w w' (.els encPP Ty_api_Partial 5 ua uc L :: L.map agP) (CoR L) :=
 (H.sub (fun i => i + X.length) (fun i r h => by rw [List.getElem?_append_right (by omega), Nat.add_sub_cancel]; exact h) (fun i j _ _ h => by omega)).imp hP
theorem retR {w w' : World} {P : World -> Prop} {ua : Option Addr} {uc : Nat} {L : List PP} {X : List Res} (x : Rc) {E : Int} (H : St (fun _ => False) [] w w' (X ++ .els encPP Ty_api_Partial 5 ua uc L :: L.map agP) P) (hL : L.map (·.p) = x.parts) (hP : ∀ w, P w -> CoR L w) :
 RetR w x E (.returned (.tuple #[aggRc x ua uc, .int .i64 E])) w' := ⟨ua, uc, L, hL, rfl, finP (x := x) H hP⟩
theorem retRZ {w w' : World} {P : World -> Prop} {R : List Res} {E : Int} (H : St (fun _ => False) [] w w' R P) : RetR w .zero E (.returned (.tuple #[aggRc .zero none 0, .int .i64 E])) w' :=
 ⟨none, 0, [], rfl, rfl, (H.fin.nilE encPP Ty_api_Partial 5).weaken0.imp fun _ _ => fun x hx => by simp at hx⟩
section
variable {s : Rc} {a : Option Addr} {c : Nat} {w : World}
theorem St.startR {A0 : Nat -> Prop} {M : List Nat} {w0 w : World} {R : List Res} {P : World -> Prop} {g i : Nat} (H : St A0 M w0 w R P) (hi : R[i]? = some (rcBlk g s a c)) (hb : bitsOk s.lk.bits) {K : Ending -> World -> Prop}
 (h : ∀ w', St A0 M w0 w' (R.set i (rcBlk g (startR s) a c)) P -> K (.returned (.tuple #[])) w') : Calls Tryz.prog N_receiver_side_start #[(.pointer (some ⟨g, 0, none⟩))] w K := by
 obtain ⟨A, hA, hn', hr, hc⟩ := H.callM hi
 refine (receiver_side_start_ct hb hA hr hn').mono ?_
 rintro _ w2 ⟨rfl, S⟩
 have := hc S
 rw [List.append_nil] at this
 exact h w2 (this.imp fun _ h => h.2)
theorem St.pollR {A0 : Nat -> Prop} {M : List Nat} {w0 w : World} {R : List Res} {P : World -> Prop} {g i : Nat} {p : Pc} {pa : Option Addr} {pc : Nat} (H : St A0 M w0 w R P) (hi : R[i]? = some (rcBlk g s a c)) {K : Ending -> World -> Prop}
 (h : ∀ w', St A0 M w0 w' (R.set i (rcBlk g (pollR s p) a c)) P -> K (.returned (.tuple #[])) w') : Calls Tryz.prog N_receiver_side_poll #[(.pointer (some ⟨g, 0, none⟩)), aggPc p pa pc] w K := by
 obtain ⟨A, hA, hn', hr, hc⟩ := H.callM hi
 refine (receiver_side_poll_ct (p := p) (pa := pa) (pc := pc) hA hr hn').mono ?_
 rintro _ w2 ⟨rfl, S⟩
 have := hc S
 rw [List.append_nil] at this
 exact h w2 (this.imp fun _ h => h.2)
theorem mark_left {s : Rc} (h : s.okB = true) : 0 <= s.left /\ s.left <= 1000 := by
 have hf := (rc_fit h).2.1
 unfold Rc.okB at h
 rw [Bool.and_eq_true] at h
 have h1 := mark_iff.1 h.2
 have := hf.2.2.2.1
 omega
theorem receiver_Tick_ct (hu : PaR w a s.parts) (hl : SmP s.parts) :
 Calls Tryz.prog N_receiver_Tick #[aggRc s a c] w (RetR w (tickRc s).1 (tickRc s).2) := by
 apply F_receiver_Tick_ok
 unfold F_receiver_Tick
 have H := St.nil w
 refine H.alloc ?_; clear H; intro b w1 H1
 refine H1.alloc ?_; clear H1; intro b1 w2 H2
 refine ⟨_, _, _, _, _, _, _, _, _, _, _, _, _, _, _, _, H2.cells (i := 0) rfl, ?_⟩
 refine (receiver_Valid_ct (paR_below hu H2.below) hl).mono ?_
 rintro _ w3 ⟨rfl, hb3⟩; have H3 := H2.pass hb3; clear H2
 refine ⟨_, rfl, ?_⟩
 refine bsplit_n (fun c3 => ?_) (fun c3 => ?_)
 ·refine H3.store (i := 1) rfl (by rfl) (by rfl) ?_; clear H3; intro w4 H4
  refine ⟨_, _, _, _, _, _, _, _, _, _, _, _, _, _, _, _, H4.cells (i := 1) rfl, ?_⟩
  rw [tickRc, if_pos c3]
  exact retRZ H4
 ·obtain ⟨hf, hlk, hs1, hs2, hs3, hq, -⟩ := rc_fit c3
  have hb := hlk.1
  have hlq := hlk.2.2.2.2.1
  have hlf := mark_left c3
  rw [tickRc, if_neg (by rw [c3]; decide)]
  refine ⟨_, _, _, _, _, _, _, _, _, _, _, _, _, _, _, _, H3.cells (i := 0) rfl, ?_⟩
  refine (receiver_begin_ct (paR_below hu H3.below) hf).mono ?_
  rintro _ w5 ⟨g5, ua5, uc5, L5, hL5, rfl, K5⟩; have H5 := H3.callF K5; clear H3
  simp only [List.cons_append, List.nil_append] at H5
  refine ⟨_, rfl, ?_⟩
  refine kNil_in ?_
  try rw [add_mk]
  refine H5.ld (i := 2) rfl rfl ?_
  refine kW_i64 (by omega) ?_
  refine kNil_in ?_
  try rw [add_mk]
  obtain ⟨t, ht⟩ : ∃ t : Rc, t = tick1 s := ⟨_, rfl⟩
  have htl : t.left = s.left := by rw [ht]; rfl
  have htk : t.lk = s.lk := by rw [ht]; rfl
  rw [<- ht]
  have hL5 : L5.map (·.p) = t.parts := by rw [hL5, ht]; rfl
  refine H5.set (i := 2) rfl (by show 11 < 14; decide) ?_; clear H5; intro w6 H6
  replace H6 : St (fun _ => False) [] w w6 (.blk b Ty_api_Receiver (encRc s a c) :: .blk b1 Ty_api_Receiver (encRc .zero none 0) :: .blk g5 Ty_receiver_side (encRc t ua5 uc5) :: .els encPP Ty_api_Partial 5 ua5 uc5 L5 :: L5.map agP) (fun w => CoR L5 w /\ True) := by rw [ht]; exact H6
  refine kNil_in ?_
  try rw [add_mk]
  refine H6.ld (i := 2) rfl rfl ?_
  rw [show s.left = t.left from htl.symm]
  refine bsplit_dec (fun c2 => ?_) (fun c2 => ?_)
  ·refine kNil_in ?_
   try rw [add_mk]
   refine ⟨_, _, _, _, _, _, _, _, _, _, _, _, _, _, _, _, H6.cells (i := 2) rfl, ?_⟩
   refine H6.store (i := 1) rfl (by rfl) (by rfl) ?_; clear H6; intro w7 H7
   refine ⟨_, _, _, _, _, _, _, _, _, _, _, _, _, _, _, _, H7.cells (i := 1) rfl, ?_⟩
   rw [if_pos c2]
   exact retR (X := [_, _, _]) t H7 hL5 fun _ h => h.1
  ·rw [if_neg c2]
   obtain ⟨u, hu'⟩ : ∃ u : Rc, u = { t with left := t.left - 1 } := ⟨_, rfl⟩
   have hul : u.left = t.left - 1 := by rw [hu']
   have huk : u.lk = t.lk := by rw [hu']
   have hL6 : L5.map (·.p) = u.parts := by rw [hL5, hu']
   rw [<- hu']
   obtain ⟨v, hv⟩ : ∃ v : Rc, v = tick2 u := ⟨_, rfl⟩
   have hvp : v.parts = u.parts := by rw [hv, tick2_parts]
   rw [<- hv]
   unfold tick2 at hv
   refine ⟨fun w19 => St (fun _ => False) [] w w19 (.blk b Ty_api_Receiver (encRc s a c) :: .blk b1 Ty_api_Receiver (encRc .zero none 0) :: .blk g5 Ty_receiver_side (encRc v ua5 uc5) :: .els encPP Ty_api_Partial 5 ua5 uc5 L5 :: L5.map agP) (fun w => CoR L5 w /\ True), ?_, ?_⟩
   ·rintro _ w19 H19
    refine kNil_in ?_
    try rw [add_mk]
    refine ⟨_, _, _, _, _, _, _, _, _, _, _, _, _, _, _, _, H19.cells (i := 2) rfl, ?_⟩
    refine H19.store (i := 1) rfl (by rfl) (by rfl) ?_; clear H19; intro w20 H20
    refine ⟨_, _, _, _, _, _, _, _, _, _, _, _, _, _, _, _, H20.cells (i := 1) rfl, ?_⟩
    exact retR (X := [_, _, _]) v H20 (by rw [hL6, hvp]) fun _ h => h.1
   ·refine kNil_in ?_
    try rw [add_mk]
    refine H6.ld (i := 2) rfl rfl ?_
    refine kW_i64 (by omega) ?_
    refine kNil_in ?_
    try rw [add_mk]
    refine H6.set (i := 2) rfl (by show 10 < 14; decide) ?_; clear H6; intro w8 H8
    replace H8 : St (fun _ => False) [] w w8 (.blk b Ty_api_Receiver (encRc s a c) :: .blk b1 Ty_api_Receiver (encRc .zero none 0) :: .blk g5 Ty_receiver_side (encRc u ua5 uc5) :: .els encPP Ty_api_Partial 5 ua5 uc5 L5 :: L5.map agP) (fun w => CoR L5 w /\ True) := by rw [hu']; exact H8
    refine kNil_in ?_
    try rw [add_mk]
    refine H8.ld (i := 2) rfl rfl ?_
    refine bsplit_dec (fun c1 => ?_) (fun c1 => ?_)
    ·rw [if_neg (by omega)] at hv
     refine H8.drew ?_; clear H8; intro w9 H9
     refine ⟨(· < w9.heap.size), ?_⟩
     refine kNil_in ?_
     try rw [add_mk]
     refine H9.ld (i := 2) rfl rfl ?_
     refine kNil_in ?_
     try rw [add_mk]
     refine ⟨H9.lt (i := 2) rfl rfl, ?_⟩
     refine H9.ld (i := 2) rfl rfl ?_
     have hb' : bitsOk u.lk.bits := by rw [huk, htk]; exact hb
     refine (receiver_side_place_ct (H9.cells (i := 2) rfl) hb').mono ?_
     rintro _ w10 ⟨rfl, hb10⟩; have H10 := H9.pass hb10
     refine ⟨_, rfl, ?_⟩
     refine ⟨hb10.keeps, ?_⟩
     refine (receiver_side_place_ct (H10.cells (i := 2) rfl) hb').mono ?_
     rintro _ w11 ⟨rfl, hb11⟩; have H11 := H10.pass hb11
     refine ⟨_, rfl, ?_⟩
     replace hb11 := below_step hb10 (Nat.le_refl _) hb11
     refine ⟨hb11.keeps, ?_⟩
     refine bsplit_dec (fun c => ?_) (fun c => ?_)
     ·refine kNil_in ?_
      try rw [add_mk]
      refine H11.ld (i := 2) rfl rfl ?_
      refine kNil_in ?_
      try rw [add_mk]
      refine H11.set (i := 2) rfl (by show 8 < 14; decide) ?_; clear H11; intro w12 H12
      refine kNil_in ?_
      try rw [add_mk]
      refine H12.set (i := 2) rfl (by show 12 < 14; decide) ?_; clear H12; intro w13 H13
      refine kNil_in ?_
      try rw [add_mk]
      refine H13.set (i := 2) rfl (by show 9 < 14; decide) ?_; clear H13; intro w14 H14
      rw [if_pos c] at hv
      refine St.startR (s := { u with upto := u.mark, due := true, mark := -1 }) H14 (i := 2) rfl hb' ?_
      intro w15 H15
      refine ⟨rfl, ?_⟩
      rw [hv]; exact H15
     ·refine kNil_in ?_
      try rw [add_mk]
      refine H11.set (i := 2) rfl (by show 12 < 14; decide) ?_; clear H11; intro w16 H16
      refine kNil_in ?_
      try rw [add_mk]
      refine H16.set (i := 2) rfl (by show 9 < 14; decide) ?_; clear H16; intro w17 H17
      rw [if_neg c] at hv
      refine St.startR (s := { u with upto := u.upto, due := true, mark := -1 }) H17 (i := 2) rfl hb' ?_
      intro w18 H18
      refine ⟨rfl, ?_⟩
      rw [hv]; exact H18
    ·rw [if_pos (by omega)] at hv
     rw [hv]; exact H8
end
end Go.Proofs.YtmbppohkadmjgaaGreat
namespace Go.Proofs.YtmbppohkadmjgaaGreat
open Go.Sx Go.RowKit
set_option maxRecDepth 100000
section
variable {s : Rc} {a : Option Addr} {c : Nat} {w : World}
end
end Go.Proofs.YtmbppohkadmjgaaGreat
