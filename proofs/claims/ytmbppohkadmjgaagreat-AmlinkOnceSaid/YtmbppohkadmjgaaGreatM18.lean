import Derived.Test.YtmbppohkadmjgaaGreatForms
import Derived.Test.YtmbppohkadmjgaaGreatTys
import Derived.Test.YtmbppohkadmjgaaGreatSt
import Derived.Test.YtmbppohkadmjgaaGreatBt
import Derived.Test.YtmbppohkadmjgaaGreatEl
import Derived.Test.YtmbppohkadmjgaaGreatEq3
import Derived.Test.YtmbppohkadmjgaaGreatAz0
import Derived.Test.YtmbppohkadmjgaaGreatHp
import Derived.Test.YtmbppohkadmjgaaGreatEl2
import Derived.Test.YtmbppohkadmjgaaGreatDice
import Derived.Recover
namespace Go.Sx
structure Pc where
 sn : Int
 part : Int
 poll : Int
 off : Int
 data : List Int

def Pc.zero : Pc := ⟨0, 0, 0, 0, []⟩
def begins (part : Int) : Bool := decide (part = 0 ∨ part = 1)
def ends (part : Int) : Bool := decide (part = 0 ∨ part = 2)
def headN (part : Int) : Nat := if part = 0 ∨ part = 1 then 2 else 4
def bitsOk (b : Int) : Prop := 5 ≤ b ∧ b ≤ 9
instance (b : Int) : Decidable (bitsOk b) := inferInstanceAs (Decidable (_ ∧ _))
def pOk (b sn part poll off : Int) (n : Nat) : Prop :=
 bitsOk b ∧ (0 ≤ sn ∧ sn < 2 ^ b.toNat) ∧ (0 ≤ part ∧ part ≤ 3) ∧ (0 ≤ poll ∧ poll ≤ 1) ∧ ((part = 0 ∨ part = 1) ↔ off = 0) ∧ (0 ≤ off ∧ off ≤ 2054) ∧ 1 ≤ n ∧ off + n ≤ 2054
instance (b sn part poll off : Int) (n : Nat) : Decidable (pOk b sn part poll off n) := inferInstanceAs (Decidable (_ ∧ _))
def Pc.ok (b : Int) (p : Pc) : Prop := pOk b p.sn p.part p.poll p.off p.data.length
instance (b : Int) (p : Pc) : Decidable (p.ok b) := inferInstanceAs (Decidable (pOk _ _ _ _ _ _))
theorem pow_bits {b : Int} (h : bitsOk b) : ((2 : Int) ^ b.toNat = 32 ∨ (2 : Int) ^ b.toNat = 64 ∨ (2 : Int) ^ b.toNat = 128 ∨ (2 : Int) ^ b.toNat = 256 ∨ (2 : Int) ^ b.toNat = 512) := by
 obtain ⟨h1, h2⟩ := h
 rcases (show b = 5 ∨ b = 6 ∨ b = 7 ∨ b = 8 ∨ b = 9 by omega) with rfl | rfl | rfl | rfl | rfl <;> decide

def Pc.first (p : Pc) : Int := 32768 + 16384 * p.poll + 4096 * p.part + p.sn
def Pc.bytes (p : Pc) : List Int := [p.first / 256, p.first % 256] ++ (if p.part = 0 ∨ p.part = 1 then [] else [p.off / 256, p.off % 256]) ++ p.data
theorem Pc.first_range {b : Int} {p : Pc} (h : p.ok b) : 32768 ≤ p.first ∧ p.first < 65536 := by
 obtain ⟨hb, h1, h2, h3, _⟩ := h
 have := pow_bits hb
 unfold Pc.first
 omega
def encP (b : Int) (p : Pc) : List Int × Int := if p.ok b then (p.bytes, 0) else ([], 1)

def rawP (bs : List Int) : Pc :=
 let f := 256 * bs.getD 0 0 + bs.getD 1 0
 let part := f / 4096 % 4
 ⟨f % 4096, part, f / 16384 % 2, if part = 0 ∨ part = 1 then 0 else 256 * bs.getD 2 0 + bs.getD 3 0, bs.drop (headN part)⟩
def decP (b : Int) (bs : List Int) : Pc × Int :=
 if ¬ bitsOk b then (.zero, 3) else if bs.length < 2 then (.zero, 5) else if bs.length ≤ headN (rawP bs).part then (.zero, 5)
 else if bs.getD 0 0 < 128 ∨ ¬ (rawP bs).ok b then (.zero, 4) else (rawP bs, 0)

def partOf (first last : Bool) : Int := if first then (if last then 0 else 1) else (if last then 2 else 3)
def cutP (b : Int) (p : Pc) (size : Int) : Pc × Pc × Int :=
 if ¬ p.ok b then (.zero, .zero, 1) else if size < headN p.part + 1 then (.zero, .zero, 15)
 else if headN p.part + p.data.length ≤ size then (p, .zero, 0)
 else (⟨p.sn, partOf (begins p.part) false, p.poll, p.off, p.data.take (size - headN p.part).toNat⟩,
  ⟨p.sn, partOf false (ends p.part), p.poll, p.off + (size - headN p.part), p.data.drop (size - headN p.part).toNat⟩, 0)
end Go.Sx
namespace Go.Sx
structure Rg where
 sn : Int
 f : Int
 t : Int
deriving DecidableEq
def normB (prev : Int) : List Rg → Bool
 | [] => true
 | r :: l => decide (prev < r.f ∧ r.f < r.t) && normB r.t l
theorem normB_drop (p : Int) (l : List Rg) (k : Nat) (h : k < l.length) : normB p (l.drop k) = (decide (p < l[k].f ∧ l[k].f < l[k].t) && normB l[k].t (l.drop (k + 1))) := by
 rw [List.drop_eq_getElem_cons h]; rfl
def prevT (l : List Rg) : Nat → Int
 | 0 => -1
 | k + 1 => (l[k]?.map (·.t)).getD (-1)
theorem prevT_succ {l : List Rg} {k : Nat} (h : k < l.length) : prevT l (k + 1) = l[k].t := by
 simp [prevT, List.getElem?_eq_getElem h]
def unionS (sn : Int) : List Rg → Int → Int → List Rg
 | [], f, t => [⟨sn, f, t⟩]
 | x :: l, f, t => if x.t < f then ⟨sn, x.f, x.t⟩ :: unionS sn l f t else if x.f > t then ⟨sn, f, t⟩ :: (x :: l).map fun y => ⟨sn, y.f, y.t⟩ else unionS sn l (if x.f < f then x.f else f) (if x.t > t then x.t else t)
def gapsS (sn : Int) : List Rg → Int → Int → List Rg
 | [], at_, len => if at_ < len then [⟨sn, at_, len⟩] else []
 | x :: l, at_, len => if x.f > at_ then ⟨sn, at_, x.f⟩ :: gapsS sn l x.t len else gapsS sn l x.t len
def covB (k : Int) (l : List Rg) : Bool := l.any fun r => decide (r.f ≤ k ∧ k < r.t)
def gapsA (sn : Int) : List Rg → Int → List Rg
 | [], _ => []
 | x :: l, at_ => if x.f > at_ then ⟨sn, at_, x.f⟩ :: gapsA sn l x.t else gapsA sn l x.t
theorem gapsA_end (sn len : Int) : ∀ (l : List Rg) (at_ : Int), gapsA sn (l ++ [⟨0, len, len⟩]) at_ = gapsS sn l at_ len
 | [], at_ => by simp [gapsA, gapsS]
 | x :: l, at_ => by
  simp only [List.cons_append, gapsA, gapsS, gapsA_end sn len l]
theorem gapsA_drop (sn : Int) (l : List Rg) (k : Nat) (at_ : Int) (h : k < l.length) : gapsA sn (l.drop k) at_ = if l[k].f > at_ then ⟨sn, at_, l[k].f⟩ :: gapsA sn (l.drop (k + 1)) l[k].t else gapsA sn (l.drop (k + 1)) l[k].t := by
 rw [List.drop_eq_getElem_cons h]; rfl
def sn_ (sn : Int) (y : Rg) : Rg := ⟨sn, y.f, y.t⟩
theorem unionS_drop (sn : Int) (l : List Rg) (k : Nat) (f t : Int) (h : k < l.length) : unionS sn (l.drop k) f t = if l[k].t < f then sn_ sn l[k] :: unionS sn (l.drop (k + 1)) f t else if l[k].f > t then ⟨sn, f, t⟩ :: (sn_ sn l[k] :: (l.drop (k + 1)).map (sn_ sn)) else unionS sn (l.drop (k + 1)) (if l[k].f < f then l[k].f else f) (if l[k].t > t then l[k].t else t) := by
 rw [List.drop_eq_getElem_cons h]; rfl
def unionR (l : List Rg) (r : Rg) : List Rg × Int := if normB (-1) l = false ∨ normB (-1) [r] = false then ([], 4) else (unionS r.sn l r.f r.t, 0)
def UnionI (sn : Int) (l : List Rg) (f0 t0 : Int) (k : Nat) (before behind : List Rg) (f t : Int) : Prop :=
 f < t ∧ before.length + behind.length ≤ k ∧ -1 ≤ prevT l k ∧ normB (prevT l k) (l.drop k) = true ∧
 ((behind = [] ∧ unionS sn l f0 t0 = before ++ unionS sn (l.drop k) f t) ∨ (unionS sn l f0 t0 = before ++ ⟨sn, f, t⟩ :: (behind ++ (l.drop k).map (sn_ sn)) ∧ t < prevT l k))
theorem UnionI.step {sn : Int} {l : List Rg} {f0 t0 : Int} {k : Nat} {before behind : List Rg} {f t : Int} (h : UnionI sn l f0 t0 k before behind f t) (hlt : k < l.length) :
 (l[k].t < f → UnionI sn l f0 t0 (k + 1) (before ++ [sn_ sn l[k]]) behind f t) ∧ (¬ l[k].t < f → l[k].f > t → UnionI sn l f0 t0 (k + 1) before (behind ++ [sn_ sn l[k]]) f t) ∧
 (¬ l[k].t < f → ¬ l[k].f > t → UnionI sn l f0 t0 (k + 1) before behind (if l[k].f < f then l[k].f else f) (if l[k].t > t then l[k].t else t)) := by
 obtain ⟨h1, h2, h3, h4, h5⟩ := h
 have hp := prevT_succ hlt
 rw [normB_drop _ _ _ hlt, Bool.and_eq_true, decide_eq_true_iff] at h4
 obtain ⟨⟨n1, n2⟩, n3⟩ := h4
 have hm : (l.drop k).map (sn_ sn) = sn_ sn l[k] :: (l.drop (k + 1)).map (sn_ sn) := by rw [List.drop_eq_getElem_cons hlt]; rfl
 rw [unionS_drop _ _ _ _ _ hlt, hm] at h5
 refine ⟨fun c => ⟨h1, by simp; omega, by omega, by rw [hp]; exact n3, ?_⟩, fun c d => ⟨h1, by simp; omega, by omega, by rw [hp]; exact n3, ?_⟩, fun c d => ⟨by split <;> split <;> omega, by omega, by omega, by rw [hp]; exact n3, ?_⟩⟩
 ·rcases h5 with ⟨rfl, h5⟩ | ⟨h5, h6⟩
  ·rw [if_pos c] at h5
   left; exact ⟨rfl, by rw [h5]; simp⟩
  ·omega
 ·right
  rw [hp]
  rcases h5 with ⟨rfl, h5⟩ | ⟨h5, h6⟩
  ·rw [if_neg c, if_pos d] at h5
   exact ⟨by rw [h5]; simp, by omega⟩
  ·exact ⟨by rw [h5]; simp, by omega⟩
 ·rcases h5 with ⟨rfl, h5⟩ | ⟨h5, h6⟩
  ·rw [if_neg c, if_neg d] at h5
   left; exact ⟨rfl, h5⟩
  ·omega
theorem UnionI.done {sn : Int} {l : List Rg} {f0 t0 : Int} {before behind : List Rg} {f t : Int} (h : UnionI sn l f0 t0 l.length before behind f t) : unionS sn l f0 t0 = before ++ ⟨sn, f, t⟩ :: behind := by
 obtain ⟨h1, h2, h3, h4, h5⟩ := h
 rw [List.drop_length] at h5
 rcases h5 with ⟨rfl, h5⟩ | ⟨h5, h6⟩
 ·rw [h5]; rfl
 ·rw [h5]; simp
theorem UnionI.zero {sn : Int} {l : List Rg} {f0 t0 : Int} (h : f0 < t0) (hn : normB (-1) l = true) : UnionI sn l f0 t0 0 [] [] f0 t0 :=
 ⟨h, by simp, Int.le_refl _, by simpa [prevT] using hn, .inl ⟨rfl, by simp⟩⟩
def gapR (l : List Rg) (sn len : Int) : List Rg × Int :=
 if normB (-1) l = false then ([], 4) else if len < 0 ∨ (0 < l.length ∧ len < prevT l l.length) then ([], 3) else (gapsS sn l 0 len, 0)
end Go.Sx
namespace Go.Sx
end Go.Sx
namespace Go.Sx
def lastT (p : Int) : List Rg → Int
 | [] => p
 | x :: l => lastT x.t l
theorem lastT_snoc (x : Rg) : ∀ (l : List Rg) (p : Int), lastT p (l ++ [x]) = x.t
 | [], _ => rfl
 | y :: l, _ => lastT_snoc x l y.t
end Go.Sx
namespace Go.Sx
theorem covB_cons (k : Int) (x : Rg) (l : List Rg) : covB k (x :: l) = (decide (x.f ≤ k ∧ k < x.t) || covB k l) := rfl
theorem covB_map (k sn : Int) (l : List Rg) : covB k (l.map fun y => ⟨sn, y.f, y.t⟩) = covB k l := by
 induction l with
 | nil => rfl
 | cons x l ih => rw [List.map_cons, covB_cons, covB_cons, ih]
theorem normB_map (sn : Int) (l : List Rg) (p : Int) : normB p (l.map fun y => ⟨sn, y.f, y.t⟩) = normB p l := by
 induction l generalizing p with
 | nil => rfl
 | cons x l ih => simp only [List.map_cons, normB, ih]
theorem normB_cons {p : Int} {x : Rg} {l : List Rg} : normB p (x :: l) = true ↔ (p < x.f ∧ x.f < x.t) ∧ normB x.t l = true := by
 simp only [normB, Bool.and_eq_true, decide_eq_true_iff]
theorem normB_low {p q : Int} {l : List Rg} (h : normB p l = true) (hq : q ≤ p) : normB q l = true := by
 cases l with
 | nil => rfl
 | cons x l => rw [normB_cons] at h ⊢; exact ⟨⟨by omega, h.1.2⟩, h.2⟩
theorem cov_low {p k : Int} {l : List Rg} (h : normB p l = true) (hk : k ≤ p) : covB k l = false := by
 induction l generalizing p with
 | nil => rfl
 | cons x l ih =>
  rw [normB_cons] at h
  rw [covB_cons, ih h.2 (by omega), decide_eq_false (by omega)]; rfl
theorem union_norm (sn : Int) : ∀ (l : List Rg) (p f t : Int), normB p l = true → p < f → f < t → normB p (unionS sn l f t) = true
 | [], p, f, t, _, hf, ht => by simp [unionS, normB, hf, ht]
 | x :: l, p, f, t, h, hf, ht => by
  rw [normB_cons] at h
  unfold unionS
  split
  ·rename_i c
   rw [normB_cons]; exact ⟨h.1, union_norm sn l x.t f t h.2 c ht⟩
  ·split
   ·rename_i c d
    rw [normB_cons]
    refine ⟨⟨hf, ht⟩, ?_⟩
    rw [normB_map, normB_cons]
    exact ⟨⟨by simp only; omega, h.1.2⟩, h.2⟩
   ·refine union_norm sn l p _ _ (normB_low h.2 (by omega)) ?_ ?_
    ·split <;> omega
    ·split <;> split <;> omega
theorem union_cov (sn k : Int) : ∀ (l : List Rg) (f t : Int), f < t → (∀ x ∈ l, x.f < x.t) → covB k (unionS sn l f t) = (decide (f ≤ k ∧ k < t) || covB k l)
 | [], f, t, _, _ => by simp [unionS, covB]
 | x :: l, f, t, ht, hx => by
  have h1 := hx x (by simp)
  have h2 : ∀ y ∈ l, y.f < y.t := fun y hy => hx y (by simp [hy])
  unfold unionS
  split
  ·rw [covB_cons, union_cov sn k l f t ht h2, covB_cons]
   cases decide (f ≤ k ∧ k < t) <;> cases decide (x.f ≤ k ∧ k < x.t) <;> rfl
  ·split
   ·rw [covB_cons, covB_map]
   ·rename_i c d
    rw [union_cov sn k l _ _ (by split <;> split <;> omega) h2, covB_cons, ← Bool.or_assoc]
    congr 1
    rw [← Bool.decide_or, decide_eq_decide]
    split <;> split <;> omega
end Go.Sx
namespace Go.Sx
theorem gaps_cov (sn k len : Int) : ∀ (l : List Rg) (at_ : Int), normB (at_ - 1) l = true → (∀ x ∈ l, x.t ≤ len) → covB k (gapsS sn l at_ len) = (decide (at_ ≤ k ∧ k < len) && !covB k l)
 | [], at_, _, _ => by
  unfold gapsS
  split
  ·simp [covB]
  ·rw [decide_eq_false (by omega)]; rfl
 | x :: l, at_, h, hx => by
  rw [normB_cons] at h
  have h1 := hx x (by simp)
  have ih := gaps_cov sn k len l x.t (normB_low h.2 (by omega)) fun y hy => hx y (by simp [hy])
  have e : covB k (gapsS sn (x :: l) at_ len) = (decide (at_ ≤ k ∧ k < x.f) || (decide (x.t ≤ k ∧ k < len) && !covB k l)) := by
   unfold gapsS
   split
   ·rw [covB_cons, ih]
   ·rw [ih, decide_eq_false (show ¬ (at_ ≤ k ∧ k < x.f) by omega), Bool.false_or]
  rw [e, covB_cons]
  by_cases c : k ≤ x.t
  ·rw [cov_low h.2 c]
   simp only [Bool.not_false, Bool.and_true, Bool.or_false]
   rw [← decide_not, ← Bool.decide_or, ← Bool.decide_and, decide_eq_decide]
   omega
  ·rw [decide_eq_false (show ¬ (at_ ≤ k ∧ k < x.f) by omega), decide_eq_false (show ¬ (x.f ≤ k ∧ k < x.t) by omega), Bool.false_or, Bool.false_or]
   congr 1
   rw [decide_eq_decide]; omega
theorem gaps_norm (sn len : Int) : ∀ (l : List Rg) (p at_ : Int), normB (at_ - 1) l = true → p < at_ → normB p (gapsS sn l at_ len) = true
 | [], p, at_, _, hp => by
  unfold gapsS
  split
  ·rw [normB_cons]; exact ⟨⟨hp, by simp only; omega⟩, rfl⟩
  ·rfl
 | x :: l, p, at_, h, hp => by
  rw [normB_cons] at h
  unfold gapsS
  split
  ·rw [normB_cons]
   exact ⟨⟨hp, by simp only; omega⟩, gaps_norm sn len l x.f x.t (normB_low h.2 (by omega)) h.1.2⟩
  ·exact gaps_norm sn len l p x.t (normB_low h.2 (by omega)) (by omega)
theorem gaps_sn (sn len : Int) : ∀ (l : List Rg) (at_ : Int), ∀ x ∈ gapsS sn l at_ len, x.sn = sn
 | [], at_, x, hx => by
  unfold gapsS at hx
  split at hx
  ·simp at hx; subst hx; rfl
  ·simp at hx
 | y :: l, at_, x, hx => by
  unfold gapsS at hx
  split at hx
  ·rcases List.mem_cons.1 hx with rfl | hx
   ·rfl
   ·exact gaps_sn sn len l _ x hx
  ·exact gaps_sn sn len l _ x hx
theorem union_sn (sn : Int) : ∀ (l : List Rg) (f t : Int), ∀ x ∈ unionS sn l f t, x.sn = sn
 | [], f, t, x, hx => by simp [unionS] at hx; subst hx; rfl
 | y :: l, f, t, x, hx => by
  unfold unionS at hx
  split at hx
  ·rcases List.mem_cons.1 hx with rfl | hx
   ·rfl
   ·exact union_sn sn l _ _ x hx
  ·split at hx
   ·rcases List.mem_cons.1 hx with rfl | hx
    ·rfl
    ·simp only [List.mem_map] at hx
     obtain ⟨z, _, rfl⟩ := hx; rfl
   ·exact union_sn sn l _ _ x hx
theorem gaps_le (sn len : Int) : ∀ (l : List Rg) (at_ : Int), (∀ x ∈ l, x.f ≤ len) → ∀ x ∈ gapsS sn l at_ len, x.t ≤ len
 | [], at_, _, x, hx => by
  unfold gapsS at hx
  split at hx
  ·simp at hx; subst hx; exact Int.le_refl _
  ·simp at hx
 | y :: l, at_, h, x, hx => by
  have h2 : ∀ x ∈ l, x.f ≤ len := fun z hz => h z (by simp [hz])
  unfold gapsS at hx
  split at hx
  ·rcases List.mem_cons.1 hx with rfl | hx
   ·exact h y (by simp)
   ·exact gaps_le sn len l _ h2 x hx
  ·exact gaps_le sn len l _ h2 x hx
theorem union_le (sn : Int) : ∀ (l : List Rg) (f t m : Int), (∀ x ∈ l, x.t ≤ m) → t ≤ m → ∀ x ∈ unionS sn l f t, x.t ≤ m
 | [], f, t, m, _, ht, x, hx => by simp [unionS] at hx; subst hx; exact ht
 | y :: l, f, t, m, h, ht, x, hx => by
  have h1 := h y (by simp)
  have h2 : ∀ x ∈ l, x.t ≤ m := fun z hz => h z (by simp [hz])
  unfold unionS at hx
  split at hx
  ·rcases List.mem_cons.1 hx with rfl | hx
   ·exact h1
   ·exact union_le sn l _ _ m h2 ht x hx
  ·split at hx
   ·rcases List.mem_cons.1 hx with rfl | hx
    ·exact ht
    ·simp only [List.mem_map] at hx
     obtain ⟨z, hz, rfl⟩ := hx
     rcases List.mem_cons.1 hz with rfl | hz
     ·exact h1
     ·exact h2 z hz
   ·exact union_le sn l _ _ m h2 (by split <;> omega) x hx
theorem norm_lt : ∀ (l : List Rg) (p : Int), normB p l = true → ∀ x ∈ l, p < x.f ∧ x.f < x.t
 | [], _, _, x, hx => by simp at hx
 | y :: l, p, h, x, hx => by
  rw [normB_cons] at h
  rcases List.mem_cons.1 hx with rfl | hx
  ·exact h.1
  ·have := norm_lt l y.t h.2 x hx
   omega
end Go.Sx
namespace Go.Proofs.YtmbppohkadmjgaaGreat
open Go.Sx Go.RowKit

theorem counter_Bits_ct {bits : Int} {w : World} :
 Calls Tryz.prog N_counter_Bits #[(.int .i64 bits)] w fun e w' => e = .returned (.bool (decide (bitsOk bits))) ∧ Below w.heap.size w w' := by
 apply F_counter_Bits_ok
 unfold F_counter_Bits
 have H := St.nil w
 refine bsplit_dec (fun c => ?_) (fun c => ?_)
 ·refine kLet_in ?_
  exact ⟨retD (by unfold bitsOk; omega), H.below⟩
 ·exact ⟨retF (by unfold bitsOk; omega), H.below⟩
theorem segment_begins_ct {part : Int} {w : World} :
 Calls Tryz.prog N_segment_begins #[(.int .i64 part)] w fun e w' => e = .returned (.bool (begins part)) ∧ Below w.heap.size w w' := by
 apply F_segment_begins_ok
 unfold F_segment_begins begins
 have H := St.nil w
 refine bsplit_dec (fun c => ?_) (fun c => ?_)
 ·exact ⟨retT (by omega), H.below⟩
 ·refine kLet_in ?_
  exact ⟨retD (by omega), H.below⟩
theorem segment_Ends_ct {part : Int} {w : World} :
 Calls Tryz.prog N_segment_Ends #[(.int .i64 part)] w fun e w' => e = .returned (.bool (ends part)) ∧ Below w.heap.size w w' := by
 apply F_segment_Ends_ok
 unfold F_segment_Ends ends
 have H := St.nil w
 refine bsplit_dec (fun c => ?_) (fun c => ?_)
 ·exact ⟨retT (by omega), H.below⟩
 ·refine kLet_in ?_
  exact ⟨retD (by omega), H.below⟩
theorem segment_head_ct {part : Int} {w : World} :
 Calls Tryz.prog N_segment_head #[(.int .i64 part)] w fun e w' => e = .returned (.int .i64 (headN part : Nat)) ∧ Below w.heap.size w w' := by
 apply F_segment_head_ok
 unfold F_segment_head
 have H := St.nil w
 refine segment_begins_ct.mono ?_
 rintro _ w1 ⟨rfl, hb1⟩; have H1 := H.pass hb1; clear H
 refine ⟨_, rfl, ?_⟩
 unfold headN begins
 refine bsplit_dec (fun c => ?_) (fun c => ?_)
 ·exact ⟨by rw [if_pos c]; rfl, H1.below⟩
 ·exact ⟨by rw [if_neg c]; rfl, H1.below⟩
theorem segment_Part_ct {first : Bool} {last : Bool} {w : World} :
 Calls Tryz.prog N_segment_Part #[(.bool first), (.bool last)] w fun e w' => e = .returned (.int .i64 (partOf first last)) ∧ Below w.heap.size w w' := by
 apply F_segment_Part_ok
 unfold F_segment_Part
 refine ⟨fun x w1 => w1 = w ∧ x = (first && last), ?_, ?_⟩
 ·rintro _ x w1 ⟨rfl, rfl⟩
  have H1 := St.nil w1
  refine bsplit_intro (fun c3 => ?_) (fun c3 => ?_)
  ·exact ⟨by simp at c3; simp [partOf, c3], H1.below⟩
  ·refine bsplit_intro (fun c2 => ?_) (fun c2 => ?_)
   ·exact ⟨by subst c2; simp at c3; simp [partOf, c3], H1.below⟩
   ·refine bsplit_intro (fun c1 => ?_) (fun c1 => ?_)
    ·exact ⟨by simp [partOf, c1, c2], H1.below⟩
    ·exact ⟨by simp [partOf, c1, c2], H1.below⟩
 ·refine bsplit_intro (fun c => ?_) (fun c => ?_)
  ·exact ⟨rfl, by simp [c]⟩
  ·exact ⟨rfl, by simp [c]⟩
section
variable {bits : Int} {p_0 : Int} {p_1 : Int} {p_2 : Int} {p_3 : Int} {p_4_a : Option Addr} {p_4_l : Nat} {p_4_c : Nat} {w : World}
theorem segment_Valid_ct (hl : p_4_l ≤ 140737488355328) :
 Calls Tryz.prog N_segment_Valid #[(.int .i64 bits), (.agg #[.int .i64 p_0, .int .i64 p_1, .int .i64 p_2, .int .i64 p_3, .slice p_4_a p_4_l p_4_c])] w fun e w' => e = .returned (.bool (decide (pOk bits p_0 p_1 p_2 p_3 p_4_l))) ∧ Below w.heap.size w w' := by
 apply F_segment_Valid_ok
 unfold F_segment_Valid

 have H := St.nil w
 refine H.alloc ?_; clear H; intro b w1 H1
 refine ⟨fun x7 w4 => St (fun _ => False) [] w w4 [.blk b Ty_api_Piece [(.int .i64 p_0), (.int .i64 p_1), (.int .i64 p_2), (.int .i64 p_3), (.slice p_4_a p_4_l p_4_c)]] (fun _ => True) ∧ (x7 = true → ¬ pOk bits p_0 p_1 p_2 p_3 p_4_l) ∧ (x7 = false → bitsOk bits ∧ (0 ≤ p_0 ∧ p_0 < 2 ^ bits.toNat) ∧ (0 ≤ p_1 ∧ p_1 ≤ 3) ∧ (0 ≤ p_2 ∧ p_2 ≤ 1)), ?_, ?_⟩
 ·rintro _ x7 w4 ⟨H4, hj, hj'⟩
  refine bsplit_intro (fun c10 => ?_) (fun c10 => ?_)
  ·exact ⟨retF (hj c10), H4.below⟩
  ·obtain ⟨h1, h2, h3, h4⟩ := hj' c10
   have hiff : (decide (pOk bits p_0 p_1 p_2 p_3 p_4_l)) = decide (((p_1 = 0 ∨ p_1 = 1) ↔ p_3 = 0) ∧ (0 ≤ p_3 ∧ p_3 ≤ 2054) ∧ 1 ≤ p_4_l ∧ p_3 + p_4_l ≤ 2054) := by
    unfold pOk; simp [h1, h2, h3, h4]
   rw [hiff]
   refine ⟨fun  w7 => St (fun _ => False) [] w w7 [.blk b Ty_api_Piece [(.int .i64 p_0), (.int .i64 p_1), (.int .i64 p_2), (.int .i64 p_3), (.slice p_4_a p_4_l p_4_c)]] (fun _ => True) ∧ ((p_1 = 0 ∨ p_1 = 1) ↔ p_3 = 0) ∧ (0 ≤ p_3 ∧ p_3 ≤ 2054), ?_, ?_⟩
   ·rintro _  w7 ⟨H7, hj1, hj2⟩
    refine H7.ldS (i := 0) rfl rfl ?_
    refine bsplit_dec (fun c9 => ?_) (fun c9 => ?_)
    ·refine H7.ldS (i := 0) rfl rfl ?_
     refine H7.ld (i := 0) rfl rfl ?_
     refine kW_i64 (by omega) ?_
     refine kLet_in ?_
     exact ⟨retD (by omega), H7.below⟩
    ·exact ⟨retF (by omega), H7.below⟩
   ·refine H4.drew ?_; clear H4; intro w5 H5
    refine ⟨(· < w5.heap.size), ?_⟩
    refine H5.ld (i := 0) rfl rfl ?_
    refine ⟨H5.lt (i := 0) rfl rfl, ?_⟩
    refine H5.ld (i := 0) rfl rfl ?_
    refine segment_begins_ct.mono ?_
    rintro _ w6 ⟨rfl, hb6⟩; have H6 := H5.pass hb6
    refine ⟨_, rfl, ?_⟩
    refine ⟨hb6.keeps, ?_⟩
    refine bsplit_n (fun c8 => ?_) (fun c8 => ?_)
    ·refine ⟨retF (fun h => ?_), H6.below⟩
     unfold begins at c8
     simp only [beq_eq_false_iff_ne, ne_eq, decide_eq_decide] at c8
     exact c8 h.1
    ·have c8 : ((p_1 = 0 ∨ p_1 = 1) ↔ p_3 = 0) := by
      unfold begins at c8
      simpa only [beq_iff_eq, decide_eq_decide] using c8
     refine ⟨H5.lt (i := 0) rfl rfl, ?_⟩
     refine H5.ld (i := 0) rfl rfl ?_
     refine bsplit_dec (fun c7 => ?_) (fun c7 => ?_)
     ·exact ⟨retF (by omega), H6.below⟩
     ·refine ⟨H5.lt (i := 0) rfl rfl, ?_⟩
      refine H5.ld (i := 0) rfl rfl ?_
      refine bsplit_dec (fun c6 => ?_) (fun c6 => ?_)
      ·exact ⟨retF (by omega), H6.below⟩
      ·exact ⟨H6, c8, by omega⟩
 ·refine H1.drew ?_; clear H1; intro w2 H2
  refine ⟨(· < w2.heap.size), ?_⟩
  refine counter_Bits_ct.mono ?_
  rintro _ w3 ⟨rfl, hb3⟩; have H3 := H2.pass hb3
  refine ⟨_, rfl, ?_⟩
  refine ⟨hb3.keeps, ?_⟩
  refine bsplit_nd (fun c5 => ?_) (fun c5 => ?_)
  ·exact ⟨H3, fun _ h => c5 h.1, fun h => by cases h⟩
  ·have hbn : bits.toNat ≤ 62 ∧ 0 ≤ bits := by unfold bitsOk at c5; omega
   refine ⟨H2.lt (i := 0) rfl rfl, ?_⟩
   refine H2.ld (i := 0) rfl rfl ?_
   refine bsplit_dec (fun c4 => ?_) (fun c4 => ?_)
   ·exact ⟨H3, fun _ h => by have := h.2.1; omega, fun h => by cases h⟩
   ·refine ⟨H2.lt (i := 0) rfl rfl, ?_⟩
    refine H2.ld (i := 0) rfl rfl ?_
    refine ⟨by omega, ?_⟩
    refine kShl1 (by omega) ?_
    refine bsplit_dec (fun c3 => ?_) (fun c3 => ?_)
    ·exact ⟨H3, fun _ h => by have := h.2.1; omega, fun h => by cases h⟩
    ·refine ⟨H2.lt (i := 0) rfl rfl, ?_⟩
     refine H2.ld (i := 0) rfl rfl ?_
     refine bsplit_dec (fun c2 => ?_) (fun c2 => ?_)
     ·exact ⟨H3, fun _ h => by have := h.2.2.1; omega, fun h => by cases h⟩
     ·refine ⟨H2.lt (i := 0) rfl rfl, ?_⟩
      refine H2.ld (i := 0) rfl rfl ?_
      refine bsplit_dec (fun c1 => ?_) (fun c1 => ?_)
      ·exact ⟨H3, fun _ h => by have := h.2.2.1; omega, fun h => by cases h⟩
      ·refine ⟨H2.lt (i := 0) rfl rfl, ?_⟩
       refine H2.ld (i := 0) rfl rfl ?_
       refine bsplit_dec (fun c => ?_) (fun c => ?_)
       ·exact ⟨H3, fun _ h => by have := h.2.2.2.1; omega, fun h => by cases h⟩
       ·refine ⟨H2.lt (i := 0) rfl rfl, ?_⟩
        refine H2.ld (i := 0) rfl rfl ?_
        refine ⟨H3, fun h h' => by have := h'.2.2.2.1; simp at h; omega, fun h => ⟨c5, by omega, by omega, by simp at h; omega⟩⟩
end
end Go.Proofs.YtmbppohkadmjgaaGreat
namespace Go.Proofs.YtmbppohkadmjgaaGreat
open Go.Sx Go.RowKit

theorem ix_u8 {w : World} {a : Option Addr} {xs : List Int} (hs : SlR (IntC .u8) 1 w a xs) (i : Nat) {j : Int} (hj : j = i) (hi : i < xs.length) {F : Addr → Prop}
 (h : ∀ b, (∀ G : Int → Prop, G (xs.getD i 0) → kLd w (b.add (j.toNat * 1)) .u8 G) → F b) : kIx a xs.length j F := by
 subst hj
 obtain ⟨b, rfl, hb⟩ := hs.get hi
 exact ⟨b, rfl, ⟨by omega, by omega⟩, h b fun G hG => ⟨_, by rw [Int.toNat_natCast]; exact hb, by rwa [getD_at hi] at hG⟩⟩
theorem bytes_getD {bs : List Int} (hb : Bytes bs) (i : Nat) : 0 ≤ bs.getD i 0 ∧ bs.getD i 0 < 256 := by
 rcases Nat.lt_or_ge i bs.length with h | h
 ·rw [getD_at h]; exact hb _ h
 ·simp [List.getD, List.getElem?_eq_none h]
theorem clone_bytes {s_a : Option Addr} {xs : List Int} {s_c : Nat} {w : World} (hs : SlR (IntC .u8) 1 w s_a xs) (hl : xs.length ≤ 140737488355328) :
 Calls Tryz.prog N_slices_Clone_Sbyte_byte #[(.slice s_a xs.length s_c)] w fun e w' => ∃ a c, e = .returned (.slice a xs.length c) ∧ FreshR w w' [.ints Ty_uint8 .u8 a c xs] := by
 apply F_slices_Clone_Sbyte_byte_ok
 unfold F_slices_Clone_Sbyte_byte
 have H := St.nil w
 cases s_a with
 | none =>
  obtain rfl : xs = [] := by
   rcases hs with h | ⟨b, hb, _⟩
   ·exact h
   ·cases hb
  exact ⟨none, 0, rfl, H.nilI Ty_uint8 .u8⟩
 | some p =>
  refine bsplit_intro (fun h => by cases h) (fun _ => ?_)
  refine H.alloc ?_; clear H; intro b w1 H1
  have H1 := H1.litI (i := 0) (k := .u8) [] rfl (by decide)
  refine H1.appI (i := 0) rfl sl_Ty_S_uint8 (hs.below H1.below) (by simp; omega) (by simp; omega) ?_; intro x_a x_c w2 H2
  exact ⟨x_a, x_c, rfl, H2⟩

def putB : Nat → Int → List Int
 | 0, _ => []
 | n + 1, v => (v / 2 ^ (8 * n)) % 256 :: putB n v
def getNw (bs : List Int) (at_ : Nat) : Nat → Int
 | 0 => 0
 | n + 1 => 256 * getNw bs at_ n + bs.getD (at_ + n) 0
end Go.Proofs.YtmbppohkadmjgaaGreat
namespace Go.Proofs.YtmbppohkadmjgaaGreat
open Go.Sx Go.RowKit

def RetB (w : World) (bs : List Int) (er : Int) : Ending → World → Prop := fun e w' => ∃ a c, bs.length ≤ c ∧ e = .returned (.tuple #[.slice a bs.length c, .int .i64 er]) ∧ Fresh w w' fun w => SlR (IntC .u8) 1 w a bs
theorem RetB.nil {w w' : World} (b : Below w.heap.size w w') (er : Int) : RetB w [] er (.returned (.tuple #[.slice none 0 0, .int .i64 er])) w' :=
 ⟨none, 0, Nat.le_refl _, rfl, ((St.nil w).pass b).imp fun _ _ => .nil⟩

section
variable {bits : Int} {p_0 : Int} {p_1 : Int} {p_2 : Int} {p_3 : Int} {p_4_a : Option Addr} {d : List Int} {p_4_c : Nat} {w : World}
theorem segment_Encode_ct (hs : SlR (IntC .u8) 1 w p_4_a d) (hl : d.length ≤ 140737488355000) :
 Calls Tryz.prog N_segment_Encode #[(.int .i64 bits), (.agg #[.int .i64 p_0, .int .i64 p_1, .int .i64 p_2, .int .i64 p_3, .slice p_4_a d.length p_4_c])] w
  (RetB w (encP bits ⟨p_0, p_1, p_2, p_3, d⟩).1 (encP bits ⟨p_0, p_1, p_2, p_3, d⟩).2) := by
 apply F_segment_Encode_ok
 unfold F_segment_Encode
 have H := St.nil w
 refine H.alloc ?_; clear H; intro b w1 H1
 refine ⟨_, _, _, _, _, _, _, H1.cells (i := 0) rfl, ?_⟩
 refine (segment_Valid_ct (by omega)).mono ?_
 rintro _ w2 ⟨rfl, hb2⟩; have H2 := H1.pass hb2; clear H1
 refine ⟨_, rfl, ?_⟩
 refine bsplit_nd (fun c1 => ?_) (fun c1 => ?_)
 ·have e0 : encP bits ⟨p_0, p_1, p_2, p_3, d⟩ = ([], 1) := if_neg c1
  rw [e0]
  exact .nil H2.below _
 ·have e0 : encP bits ⟨p_0, p_1, p_2, p_3, d⟩ = (Pc.bytes ⟨p_0, p_1, p_2, p_3, d⟩, 0) := if_pos c1
  rw [e0]
  clear e0
  obtain ⟨hb, h0, h1, h2, h3, h4, h5, h6⟩ := c1
  have hp := pow_bits hb
  refine H2.ld (i := 0) rfl rfl ?_
  refine kW_i64 (by omega) ?_
  refine kLet_to (bOr_i64 15 1 (by decide) (by omega) (by omega) (by omega)) ?_
  refine H2.ld (i := 0) rfl rfl ?_
  refine kW_i64 (by omega) ?_
  refine kLet_to (bOr_i64 14 (2 + p_2) (by omega) (by omega) (by omega) (by omega)) ?_
  refine H2.ld (i := 0) rfl rfl ?_
  refine kLet_to (bOr_i64 12 (8 + 4 * p_2 + p_1) (by omega) (by omega) (by omega) (by omega)) ?_
  refine kFdiv ?_
  refine kWu8 ?_
  refine kWu8 ?_
  have e1 : (32768 + p_2 * 2 ^ 14 + p_1 * 2 ^ 12 + p_0) / 2 ^ 8 % 256 = (Pc.first ⟨p_0, p_1, p_2, p_3, d⟩) / 256 := by simp only [Pc.first]; omega
  have e2 : (32768 + p_2 * 2 ^ 14 + p_1 * 2 ^ 12 + p_0) % 256 = (Pc.first ⟨p_0, p_1, p_2, p_3, d⟩) % 256 := by simp only [Pc.first]; omega
  rw [e1, e2]
  refine H2.alloc ?_; clear H2; intro b1 w3 H3
  refine H3.ld (i := 0) rfl rfl ?_
  refine segment_begins_ct.mono ?_
  rintro _ w4 ⟨rfl, hb4⟩; have H4 := H3.pass hb4; clear H3
  refine ⟨_, rfl, ?_⟩
  have H4 := H4.litI (i := 1) (k := .u8) [(Pc.first ⟨p_0, p_1, p_2, p_3, d⟩) / 256, (Pc.first ⟨p_0, p_1, p_2, p_3, d⟩) % 256] rfl (by simp [maxLen])
  unfold begins Pc.bytes
  refine bsplit_nd (fun c => ?_) (fun c => ?_)
  ·simp only [if_neg c]
   refine H4.ld (i := 0) rfl rfl ?_
   refine kFdiv ?_
   refine kWu8 ?_
   refine H4.ld (i := 0) rfl rfl ?_
   refine kWu8 ?_
   rw [show p_3 / 2 ^ 8 % 256 = p_3 / 256 by omega]
   refine H4.alloc ?_; clear H4; intro b2 w5 H5
   refine H5.appIB (i := 1) (j := 2) rfl [p_3 / 256, p_3 % 256] rfl sl_Ty_S_uint8 rfl (by simp) (by simp) ?_; intro x_a x_c w6 H6
   refine H6.ldS (i := 0) rfl rfl ?_
   refine H6.appI (i := 1) rfl sl_Ty_S_uint8 (hs.below H6.below) (by simp; omega) (by simp; omega) ?_; intro x_a2 x_c2 w7 H7
   exact ⟨x_a2, x_c2, H7.capI (i := 1) rfl, rfl, ((H7.shareI (i := 1) rfl).fin).imp fun _ h => h.1⟩
  ·simp only [if_pos c]
   refine H4.ldS (i := 0) rfl rfl ?_
   refine H4.appI (i := 1) rfl sl_Ty_S_uint8 (hs.below H4.below) (by simp; omega) (by simp; omega) ?_; intro x_a4 x_c4 w8 H8
   exact ⟨x_a4, x_c4, H8.capI (i := 1) rfl, rfl, ((H8.shareI (i := 1) rfl).fin).imp fun _ h => h.1⟩

end
end Go.Proofs.YtmbppohkadmjgaaGreat
namespace Go.Proofs.YtmbppohkadmjgaaGreat
open Go.Sx Go.RowKit

def RetP (w : World) (p : Pc) (er : Int) : Ending → World → Prop := fun e w' => ∃ a c, p.data.length ≤ c ∧
 e = .returned (.tuple #[.agg #[.int .i64 p.sn, .int .i64 p.part, .int .i64 p.poll, .int .i64 p.off, .slice a p.data.length c], .int .i64 er]) ∧ Fresh w w' fun w => SlR (IntC .u8) 1 w a p.data
theorem RetP.zero {w w' : World} (b : Below w.heap.size w w') (er : Int) :
 RetP w .zero er (.returned (.tuple #[.agg #[.int .i64 0, .int .i64 0, .int .i64 0, .int .i64 0, .slice none 0 0], .int .i64 er])) w' :=
 ⟨none, 0, Nat.le_refl _, rfl, ((St.nil w).pass b).imp fun _ _ => .nil⟩
theorem headN_cases (part : Int) : ((part = 0 ∨ part = 1) ∧ headN part = 2) ∨ (¬ (part = 0 ∨ part = 1) ∧ headN part = 4) := by
 unfold headN
 by_cases h : part = 0 ∨ part = 1
 ·exact .inl ⟨h, if_pos h⟩
 ·exact .inr ⟨h, if_neg h⟩

section
variable {bits : Int} {b_a : Option Addr} {bs : List Int} {b_c : Nat} {w : World}
theorem segment_Decode_ct (hs : SlR (IntC .u8) 1 w b_a bs) (hB : Bytes bs) (hl : bs.length ≤ 140737488355328) (hcap : bs.length ≤ b_c) :
 Calls Tryz.prog N_segment_Decode #[(.int .i64 bits), (.slice b_a bs.length b_c)] w (RetP w (decP bits bs).1 (decP bits bs).2) := by
 apply F_segment_Decode_ok
 unfold F_segment_Decode
 have H := St.nil w
 refine H.alloc ?_; clear H; intro b w1 H1
 refine counter_Bits_ct.mono ?_
 rintro _ w2 ⟨rfl, hb2⟩; have H2 := H1.pass hb2; clear H1
 refine ⟨_, rfl, ?_⟩
 refine bsplit_nd (fun c5 => ?_) (fun c5 => ?_)
 ·refine H2.store (i := 0) rfl (by rfl) (by rfl) ?_; clear H2; intro w3 H3
  refine ⟨_, _, _, _, _, _, _, H3.cells (i := 0) rfl, ?_⟩
  have e0 : decP bits bs = (.zero, 3) := by unfold decP; rw [if_pos c5]
  rw [e0]
  exact .zero H3.below _
 ·refine kLet_in ?_
  refine bsplit_dec (fun c4 => ?_) (fun c4 => ?_)
  ·refine H2.store (i := 0) rfl (by rfl) (by rfl) ?_; clear H2; intro w4 H4
   refine ⟨_, _, _, _, _, _, _, H4.cells (i := 0) rfl, ?_⟩
   have e0 : decP bits bs = (.zero, 5) := by unfold decP; rw [if_neg (by simpa using c5), if_pos (by omega)]
   rw [e0]
   exact .zero H4.below _
  ·refine H2.drew ?_; clear H2; intro w5 H5
   have b0 := bytes_getD hB 0
   have b1 := bytes_getD hB 1
   refine ix_u8 (hs.below H5.below) 0 rfl (by omega) fun p0 hp0 => ?_
   refine hp0 _ ?_
   refine kW_i64 (by omega) ?_
   refine kW_i64 (by omega) ?_
   refine ix_u8 (hs.below H5.below) 1 rfl (by omega) fun p1 hp1 => ?_
   refine hp1 _ ?_
   refine kW_i64 (by omega) ?_
   obtain ⟨f, hf⟩ : ∃ f, f = 256 * bs.getD 0 0 + bs.getD 1 0 := ⟨_, rfl⟩
   refine kLet_to (y := f) (by rw [bOr_i64 8 (bs.getD 0 0) (by omega) (by omega) (by omega) (by omega)]; omega) ?_
   refine kFdiv ?_
   refine kLet_to (y := f / 16384 % 2) (by rw [bAnd_i64 (m := 1) 1 (by omega) (by decide) (by decide)]; omega) ?_
   refine kFdiv ?_
   refine kLet_to (y := f / 4096 % 4) (by rw [bAnd_i64 (m := 3) 2 (by omega) (by decide) (by decide)]; omega) ?_
   refine kLet_to (y := f % 4096) (by rw [bAnd_i64 (m := 4095) 12 (by omega) (by decide) (by decide)]; omega) ?_
   have hraw : rawP bs = ⟨f % 4096, f / 4096 % 4, f / 16384 % 2, if f / 4096 % 4 = 0 ∨ f / 4096 % 4 = 1 then 0 else 256 * bs.getD 2 0 + bs.getD 3 0, bs.drop (headN (f / 4096 % 4))⟩ := by rw [hf]; rfl
   have hpart : (rawP bs).part = f / 4096 % 4 := by rw [hraw]
   refine H5.alloc ?_; clear H5; intro b3 w6 H6
   refine H6.store (i := 1) rfl (by rfl) (by rfl) ?_; clear H6; intro w7 H7
   refine H7.ld (i := 1) rfl rfl ?_
   refine segment_head_ct.mono ?_
   rintro _ w8 ⟨rfl, hb8⟩; have H8 := H7.pass hb8; clear H7
   refine ⟨_, rfl, ?_⟩
   refine bsplit_dec (fun c3 => ?_) (fun c3 => ?_)
   ·refine H8.store (i := 0) rfl (by rfl) (by rfl) ?_; clear H8; intro w9 H9
    refine ⟨_, _, _, _, _, _, _, H9.cells (i := 0) rfl, ?_⟩
    have e0 : decP bits bs = (.zero, 5) := by unfold decP; rw [if_neg (by simpa using c5), if_neg (by omega), if_pos (by rw [hpart]; omega)]
    rw [e0]
    exact .zero H9.below _
   ·have hh := headN_cases (f / 4096 % 4)
    have dec : decP bits bs = if bs.getD 0 0 < 128 ∨ ¬ (rawP bs).ok bits then (.zero, 4) else (rawP bs, 0) := by
     unfold decP; rw [if_neg (by simpa using c5), if_neg (by omega), if_neg (by rw [hpart]; omega)]
    refine ⟨fun w12 => St (fun _ => False) [] w w12 [.blk b Ty_api_Piece [(.int .i64 (0 : Int)), (.int .i64 (0 : Int)), (.int .i64 (0 : Int)), (.int .i64 (0 : Int)), (.slice none 0 0)], .blk b3 Ty_api_Piece [(.int .i64 (f % 4096)), (.int .i64 (f / 4096 % 4)), (.int .i64 (f / 16384 % 2)), .int .i64 (rawP bs).off, .slice none 0 0]] (fun _ => True), ?_, ?_⟩
    ·rintro _  w12 H12
     refine ⟨⟨by omega, by omega⟩, ?_⟩
     have hx : ((rawP bs).data).length = bs.length - ((headN (f / 4096 % 4) : Nat) : Int).toNat := by rw [hraw]; simp
     have hs12 : SlR (IntC .u8) 1 w12 (slAddr b_c ((headN (f / 4096 % 4) : Nat) : Int).toNat 1 b_a) (rawP bs).data := by
      rw [hraw]
      exact (hs.below H12.below).tail hcap
     rw [← hx]
     refine (clone_bytes hs12 (by omega)).mono ?_
     rintro _ w13 ⟨r_a, r_c, rfl, K⟩; have H13 := H12.callR K; clear H12 K
     refine ⟨_, _, _, rfl, ?_⟩
     refine H13.set (i := 1) rfl (by simp) ?_; clear H13; intro w14 H14
     refine kFdiv ?_
     refine bsplit_dec (fun c2 => ?_) (fun c2 => ?_)
     ·refine H14.store (i := 0) rfl (by rfl) (by rfl) ?_; clear H14; intro w15 H15
      refine ⟨_, _, _, _, _, _, _, H15.cells (i := 0) rfl, ?_⟩
      rw [dec, if_pos (.inl (by omega))]
      exact .zero H15.below _
     ·refine ⟨_, _, _, _, _, _, _, H14.cells (i := 1) rfl, ?_⟩
      refine (segment_Valid_ct (by omega)).mono ?_
      rintro _ w16 ⟨rfl, hb16⟩; have H16 := H14.pass hb16; clear H14
      refine ⟨_, rfl, ?_⟩
      have hok : (rawP bs).ok bits ↔ pOk bits (f % 4096) (f / 4096 % 4) (f / 16384 % 2) (rawP bs).off (rawP bs).data.length := by
       unfold Pc.ok; rw [show (rawP bs).sn = f % 4096 by rw [hraw], hpart, show (rawP bs).poll = f / 16384 % 2 by rw [hraw]]
      refine bsplit_nd (fun c1 => ?_) (fun c1 => ?_)
      ·refine H16.store (i := 0) rfl (by rfl) (by rfl) ?_; clear H16; intro w17 H17
       refine ⟨_, _, _, _, _, _, _, H17.cells (i := 0) rfl, ?_⟩
       rw [dec, if_pos (.inr (by rw [hok]; exact c1))]
       exact .zero H17.below _
      ·refine ⟨_, _, _, _, _, _, _, H16.cells (i := 1) rfl, ?_⟩
       refine H16.store (i := 0) rfl (by rfl) (by rfl) ?_; clear H16; intro w18 H18
       refine ⟨_, _, _, _, _, _, _, H18.cells (i := 0) rfl, ?_⟩
       rw [dec, if_neg (by rw [hok]; simp only [not_or, Decidable.not_not]; exact ⟨by omega, c1⟩)]
       refine ⟨r_a, r_c, H18.capI (i := 2) rfl, ?_, ((H18.shareI (i := 2) rfl).fin).imp fun _ h => h.1⟩
       rw [show (rawP bs).sn = f % 4096 by rw [hraw], hpart, show (rawP bs).poll = f / 16384 % 2 by rw [hraw]]
    ·refine bsplit_dec (fun c => ?_) (fun c => ?_)
     ·refine H8.drew ?_; clear H8; intro w10 H10
      have b2 := bytes_getD hB 2
      have b3 := bytes_getD hB 3
      refine ix_u8 (hs.below H10.below) 2 rfl (by omega) fun p2 hp2 => ?_
      refine hp2 _ ?_
      refine kW_i64 (by omega) ?_
      refine kW_i64 (by omega) ?_
      refine ix_u8 (hs.below H10.below) 3 rfl (by omega) fun p3 hp3 => ?_
      refine hp3 _ ?_
      refine kW_i64 (by omega) ?_
      refine kLet_to (y := (rawP bs).off) (by rw [bOr_i64 8 (bs.getD 2 0) (by omega) (by omega) (by omega) (by omega), hraw]; simp only; rw [if_neg (by omega)]; omega) ?_
      refine H10.set (i := 1) rfl (by simp) ?_; intro w11 H11
      exact H11
     ·have e : (rawP bs).off = 0 := by rw [hraw]; simp only; rw [if_pos (by omega)]
      rw [e]; exact H8
end
end Go.Proofs.YtmbppohkadmjgaaGreat
namespace Go.Proofs.YtmbppohkadmjgaaGreat
open Go.Sx Go.RowKit

def RetPP (w : World) (p q : Pc) (er : Int) : Ending → World → Prop := fun e w' => ∃ a c a' c', p.data.length ≤ c ∧ q.data.length ≤ c' ∧
 e = .returned (.tuple #[.agg #[.int .i64 p.sn, .int .i64 p.part, .int .i64 p.poll, .int .i64 p.off, .slice a p.data.length c], .agg #[.int .i64 q.sn, .int .i64 q.part, .int .i64 q.poll, .int .i64 q.off, .slice a' q.data.length c'], .int .i64 er]) ∧
 Fresh w w' fun w => SlR (IntC .u8) 1 w a p.data ∧ SlR (IntC .u8) 1 w a' q.data
theorem RetPP.zero {w w' : World} (b : Below w.heap.size w w') (er : Int) :
 RetPP w .zero .zero er (.returned (.tuple #[.agg #[.int .i64 0, .int .i64 0, .int .i64 0, .int .i64 0, .slice none 0 0], .agg #[.int .i64 0, .int .i64 0, .int .i64 0, .int .i64 0, .slice none 0 0], .int .i64 er])) w' :=
 ⟨none, 0, none, 0, Nat.le_refl _, Nat.le_refl _, rfl, ((St.nil w).pass b).imp fun _ _ => ⟨.nil, .nil⟩⟩

section
variable {bits : Int} {p_0 : Int} {p_1 : Int} {p_2 : Int} {p_3 : Int} {p_4_a : Option Addr} {d : List Int} {p_4_c : Nat} {size : Int} {w : World}
theorem segment_Cut_ct (hs : SlR (IntC .u8) 1 w p_4_a d) (hl : d.length ≤ 140737488355000) (hcap : d.length ≤ p_4_c) (hsz : -9223372036854775808 ≤ size ∧ size ≤ 9223372036854775807) :
 Calls Tryz.prog N_segment_Cut #[(.int .i64 bits), (.agg #[.int .i64 p_0, .int .i64 p_1, .int .i64 p_2, .int .i64 p_3, .slice p_4_a d.length p_4_c]), (.int .i64 size)] w
  (RetPP w (cutP bits ⟨p_0, p_1, p_2, p_3, d⟩ size).1 (cutP bits ⟨p_0, p_1, p_2, p_3, d⟩ size).2.1 (cutP bits ⟨p_0, p_1, p_2, p_3, d⟩ size).2.2) := by
 apply F_segment_Cut_ok
 unfold F_segment_Cut
 have H := St.nil w
 have hh := headN_cases p_1
 refine H.alloc ?_; clear H; intro b w1 H1
 refine H1.alloc ?_; clear H1; intro b1 w2 H2
 refine H2.alloc ?_; clear H2; intro b2 w3 H3
 refine H3.ld (i := 0) rfl rfl ?_
 refine segment_head_ct.mono ?_
 rintro _ w4 ⟨rfl, hb4⟩; have H4 := H3.pass hb4; clear H3
 refine ⟨_, rfl, ?_⟩
 refine ⟨_, _, _, _, _, _, _, H4.cells (i := 0) rfl, ?_⟩
 refine (segment_Valid_ct (by omega)).mono ?_
 rintro _ w5 ⟨rfl, hb5⟩; have H5 := H4.pass hb5; clear H4
 refine ⟨_, rfl, ?_⟩
 refine bsplit_nd (fun c2 => ?_) (fun c2 => ?_)
 ·refine H5.store (i := 1) rfl (by rfl) (by rfl) ?_; clear H5; intro w6 H6
  refine H6.store (i := 2) rfl (by rfl) (by rfl) ?_; clear H6; intro w7 H7
  refine ⟨_, _, _, _, _, _, _, H7.cells (i := 1) rfl, ?_⟩
  refine ⟨_, _, _, _, _, _, _, H7.cells (i := 2) rfl, ?_⟩
  have e0 : cutP bits ⟨p_0, p_1, p_2, p_3, d⟩ size = (.zero, .zero, 1) := if_pos c2
  rw [e0]
  exact .zero H7.below _
 ·refine kW_i64 (by omega) ?_
  refine kLet_in ?_
  refine bsplit_dec (fun c1 => ?_) (fun c1 => ?_)
  ·refine H5.store (i := 1) rfl (by rfl) (by rfl) ?_; clear H5; intro w8 H8
   refine H8.store (i := 2) rfl (by rfl) (by rfl) ?_; clear H8; intro w9 H9
   refine ⟨_, _, _, _, _, _, _, H9.cells (i := 1) rfl, ?_⟩
   refine ⟨_, _, _, _, _, _, _, H9.cells (i := 2) rfl, ?_⟩
   have e0 : cutP bits ⟨p_0, p_1, p_2, p_3, d⟩ size = (.zero, .zero, 15) := (if_neg (not_not_intro c2)).trans (if_pos c1)
   rw [e0]
   exact .zero H9.below _
  ·refine ⟨_, _, _, _, _, _, _, H5.cells (i := 0) rfl, ?_⟩
   refine H5.store (i := 1) rfl (by rfl) (by rfl) ?_; clear H5; intro w10 H10
   refine H10.ldS (i := 0) rfl rfl ?_
   refine (clone_bytes (hs.below H10.below) (by omega)).mono ?_
   rintro _ w11 ⟨r_a, r_c, rfl, K⟩; have H11 := H10.callR K; clear H10 K
   refine ⟨_, _, _, rfl, ?_⟩
   refine H11.set (i := 1) rfl (by simp) ?_; clear H11; intro w12 H12
   refine H12.ldS (i := 0) rfl rfl ?_
   refine kW_i64 (by omega) ?_
   refine bsplit_dec (fun c => ?_) (fun c => ?_)
   ·refine ⟨_, _, _, _, _, _, _, H12.cells (i := 1) rfl, ?_⟩
    refine H12.store (i := 1) rfl (by rfl) (by rfl) ?_; clear H12; intro w13 H13
    refine H13.store (i := 2) rfl (by rfl) (by rfl) ?_; clear H13; intro w14 H14
    refine ⟨_, _, _, _, _, _, _, H14.cells (i := 1) rfl, ?_⟩
    refine ⟨_, _, _, _, _, _, _, H14.cells (i := 2) rfl, ?_⟩
    have e0 : cutP bits ⟨p_0, p_1, p_2, p_3, d⟩ size = (⟨p_0, p_1, p_2, p_3, d⟩, .zero, 0) := (if_neg (not_not_intro c2)).trans ((if_neg c1).trans (if_pos c))
    rw [e0]
    exact ⟨r_a, r_c, none, 0, H14.capI (i := 3) rfl, Nat.le_refl _, rfl, ((H14.shareI (i := 3) rfl).fin).imp fun _ h => ⟨h.1, .nil⟩⟩
   ·obtain ⟨k, hk⟩ : ∃ k, k = (size - (headN p_1 : Nat)).toNat := ⟨_, rfl⟩
    have e0 : cutP bits ⟨p_0, p_1, p_2, p_3, d⟩ size = (⟨p_0, partOf (begins p_1) false, p_2, p_3, d.take k⟩, ⟨p_0, partOf false (ends p_1), p_2, p_3 + (size - headN p_1), d.drop k⟩, 0) := by
     rw [hk]; exact (if_neg (not_not_intro c2)).trans ((if_neg c1).trans (if_neg c))
    rw [e0]
    have hoff := c2.2.2.2.2.2
    refine kW_i64 (by omega) ?_
    refine ⟨_, _, _, _, _, _, _, H12.cells (i := 0) rfl, ?_⟩
    refine H12.store (i := 2) rfl (by rfl) (by rfl) ?_; clear H12; intro w15 H15
    refine H15.drew ?_; clear H15; intro w16 H16
    refine ⟨fun x => x < w16.heap.size ∧ x ∉ [b2], ?_⟩
    have f16 := Fr.refl [b2] w16
    refine ⟨⟨H16.lt (i := 0) rfl rfl, nin1 (H16.ne (i := 0) (j := 2) rfl rfl (by decide) rfl rfl)⟩, ?_⟩
    refine H16.ld (i := 0) rfl rfl ?_
    refine kW_i64 (by omega) ?_
    refine H16.ldS (i := 0) rfl rfl ?_
    refine ⟨⟨by omega, by omega⟩, ?_⟩
    have hx : (d.drop k).length = d.length - (size - (headN p_1 : Nat)).toNat := by simp; omega
    rw [← hx, ← hk]
    refine (clone_bytes ((hs.below H16.below).tail hcap) (by omega)).mono ?_
    rintro _ w17 ⟨r_a1, r_c1, rfl, K⟩; have hb17 := K.below; have H17 := H16.callR K; clear K
    refine ⟨_, _, _, rfl, ?_⟩
    have f17 := f16.tr (hb17.fr []) (by simp)
    refine ⟨f17.keeps, ?_⟩
    refine H17.setF (i := 2) rfl (by simp) ?_; intro w18 g18 H18
    have f18 := f17.tr g18 (by simp)
    refine ⟨f18.keeps, ?_⟩
    refine H18.set (i := 2) rfl (by simp) ?_; intro w19 H19
    refine H19.ldS (i := 1) rfl rfl ?_
    have hrc := H19.capI (i := 3) rfl
    refine ⟨⟨by omega, by omega⟩, ?_⟩
    refine ⟨⟨by omega, by omega⟩, ?_⟩
    refine H19.set (i := 1) rfl (by simp) ?_; clear H19; intro w20 H20
    refine H20.drew ?_; clear H20; intro w21 H21
    refine ⟨fun x => x < w21.heap.size ∧ x ∉ [b1], ?_⟩
    have f21 := Fr.refl [b1] w21
    refine H21.ld (i := 0) rfl rfl ?_
    refine ⟨⟨H21.lt (i := 0) rfl rfl, nin1 (H21.ne (i := 0) (j := 1) rfl rfl (by decide) rfl rfl)⟩, ?_⟩
    refine H21.ld (i := 0) rfl rfl ?_
    refine segment_begins_ct.mono ?_
    rintro _ w22 ⟨rfl, hb22⟩; have H22 := H21.pass hb22
    refine ⟨_, rfl, ?_⟩
    have f22 := f21.tr (hb22.fr []) (by simp)
    refine ⟨f22.keeps, ?_⟩
    refine segment_Part_ct.mono ?_
    rintro _ w23 ⟨rfl, hb23⟩; have H23 := H22.pass hb23
    refine ⟨_, rfl, ?_⟩
    have f23 := f22.tr (hb23.fr []) (by simp)
    refine ⟨f23.keeps, ?_⟩
    refine segment_Ends_ct.mono ?_
    rintro _ w24 ⟨rfl, hb24⟩; have H24 := H23.pass hb24
    refine ⟨_, rfl, ?_⟩
    have f24 := f23.tr (hb24.fr []) (by simp)
    refine ⟨f24.keeps, ?_⟩
    refine segment_Part_ct.mono ?_
    rintro _ w25 ⟨rfl, hb25⟩; have H25 := H24.pass hb25
    refine ⟨_, rfl, ?_⟩
    have f25 := f24.tr (hb25.fr []) (by simp)
    refine ⟨f25.keeps, ?_⟩
    refine H25.setF (i := 1) rfl (by simp) ?_; intro w26 g26 H26
    have f26 := f25.tr g26 (by simp)
    refine ⟨f26.keeps, ?_⟩
    refine H26.set (i := 2) rfl (by simp) ?_; intro w27 H27
    simp only [List.cons_append, List.nil_append, List.set_cons_zero, List.set_cons_succ] at H27
    refine H27.drew ?_; clear H27; intro w28 H28
    refine ⟨fun _ => True, ?_⟩
    have k28 := KeepsB.refl (fun _ => True) w28
    refine ⟨_, _, _, _, _, _, _, H28.cells (i := 1) rfl, ?_⟩
    refine ⟨trivial, ?_⟩
    refine ⟨_, _, _, _, _, _, _, H28.cells (i := 2) rfl, ?_⟩
    refine H28.storeK (i := 1) rfl rfl ?_; intro w29 k29 H29
    replace k29 := keepT k28 k29
    refine ⟨k29, ?_⟩
    refine H29.storeK (i := 2) rfl rfl ?_; intro w30 k30 H30
    replace k30 := keepT k29 k30
    refine ⟨k30, ?_⟩
    refine ⟨_, _, _, _, _, _, _, H30.cells (i := 1) rfl, ?_⟩
    refine ⟨_, _, _, _, _, _, _, H30.cells (i := 2) rfl, ?_⟩
    have hc1 := H30.capI (i := 4) rfl
    have H30 := H30.shareI (i := 3) rfl
    have H30 := H30.shareI (i := 4) rfl
    have el : k - 0 = (d.take k).length := by simp; omega
    refine ⟨slAddr k 0 1 r_a, k - 0, r_a1, r_c1, by rw [el]; exact Nat.le_refl _, hc1, ?_, H30.fin.imp fun _ h => ⟨h.2.1.pre _ _, h.1⟩⟩
    rw [← el]
end
end Go.Proofs.YtmbppohkadmjgaaGreat
namespace Go.Proofs.YtmbppohkadmjgaaGreat
open Go.Sx Go.RowKit

def encR (x : Rg) : List Value := [.int .i64 x.sn, .int .i64 x.f, .int .i64 x.t]
theorem encR_ok : Enc encR 3 := ⟨fun _ => rfl, fun _ => rfl⟩
section
variable {l_a b_a : Option Addr} {l m : List Rg} {l_c b_c : Nat} {k : Int} {w : World}
theorem segment_Normal_ct (hs : SlR (CE encR) 3 w l_a l) (hl : l.length ≤ 140737488355328) :
 Calls Tryz.prog N_segment_Normal #[(.slice l_a l.length l_c)] w fun e w' => e = .returned (.bool (normB (-1) l)) ∧ Below w.heap.size w w' := by
 apply F_segment_Normal_ok
 unfold F_segment_Normal
 have H := St.nil w
 refine ⟨fun x => ((l.length - x).toNat, fun w1 => ∃ k : Nat, k ≤ l.length ∧ x = k ∧ normB (-1) l = normB (prevT l k) (l.drop k) ∧ -1 ≤ prevT l k ∧ FreshR w w1 []), ⟨0, by omega, rfl, rfl, Int.le_refl _, H⟩, ?_⟩
 clear H
 rintro _ x w1 ⟨k, hk, rfl, hI, hpv, H1⟩
 refine bsplit_dec (fun c4 => ?_) (fun c4 => ?_)
 ·have hlt : k < l.length := by omega
  rw [normB_drop _ _ _ hlt] at hI
  have hp : prevT l k = -1 ∨ 0 < k := by rcases k with _ | k <;> simp [prevT]
  refine ixE (hs.belowE H1.below) k rfl hlt fun b s hsk hb => ?_
  obtain rfl : l[k] = s := by rw [List.getElem?_eq_getElem hlt] at hsk; injection hsk
  refine ⟨_, _, _, hb, ?_⟩
  refine H1.alloc ?_; clear H1; intro b1 w2 H2
  refine H2.store (i := 0) rfl (by rfl) (by rfl) ?_; clear H2; intro w3 H3
  refine H3.drew ?_; clear H3; intro w4 H4
  have no : (l[k].f < 0 ∨ l[k].f ≥ l[k].t ∨ (0 < k ∧ l[k].f ≤ prevT l k)) → normB (-1) l = false := fun h => by
   rw [hI, decide_eq_false, Bool.false_and]
   rintro ⟨h1, h2⟩
   rcases h with h | h | h
   ·omega
   ·omega
   ·omega
  have go : ∀ {w5 : World}, St (fun _ => False) [] w w5 [.blk b1 Ty_api_Range (encR l[k])] (fun _ => True) → 0 ≤ l[k].f → l[k].f < l[k].t → (0 < k → prevT l k < l[k].f) → ∃ k2 : Nat, k2 ≤ l.length ∧ (k : Int) + 1 = k2 ∧ normB (-1) l = normB (prevT l k2) (l.drop k2) ∧ -1 ≤ prevT l k2 ∧ FreshR w w5 [] := fun H5 h1 h2 h3 => by
   refine ⟨k + 1, by omega, by omega, ?_, by rw [prevT_succ hlt]; omega, H5.fin⟩
   rw [hI, prevT_succ hlt, decide_eq_true, Bool.true_and]
   refine ⟨?_, h2⟩
   rcases hp with hp | hp
   ·omega
   ·exact h3 hp
  refine H4.ld (i := 0) rfl rfl ?_
  refine bsplit_dec (fun c3 => ?_) (fun c3 => ?_)
  ·exact ⟨by rw [no (.inl c3)], H4.below⟩
  refine H4.ld (i := 0) rfl rfl ?_
  refine H4.ld (i := 0) rfl rfl ?_
  refine bsplit_dec (fun c2 => ?_) (fun c2 => ?_)
  ·exact ⟨by rw [no (.inr (.inl c2))], H4.below⟩
  refine bsplit_dec (fun c1 => ?_) (fun c1 => ?_)
  ·refine H4.ld (i := 0) rfl rfl ?_
   refine kW_i64 (by omega) ?_
   refine ixE (hs.belowE H4.below) (k - 1) (by omega) (by omega) fun b s hsk hb => ?_
   refine ld_at hb 2 rfl ?_
   have hs2 : s.t = prevT l k := by
    rcases k with _ | k
    ·omega
    ·simp only [Nat.add_sub_cancel] at hsk
     simp [prevT, hsk]
   refine bsplit_dec (fun c => ?_) (fun c => ?_)
   ·exact ⟨by rw [no (.inr (.inr ⟨by omega, by rw [← hs2]; exact c⟩))], H4.below⟩
   ·refine kW_i64 (by omega) ?_
    exact ⟨go H4 (by omega) (by omega) fun _ => by omega, by dsimp only; omega⟩
  ·refine kW_i64 (by omega) ?_
   exact ⟨go H4 (by omega) (by omega) fun h => by omega, by dsimp only; omega⟩
 ·obtain rfl : k = l.length := by omega
  rw [List.drop_length] at hI
  exact ⟨by rw [hI]; rfl, H1.below⟩
end
end Go.Proofs.YtmbppohkadmjgaaGreat
namespace Go.Proofs.YtmbppohkadmjgaaGreat
open Go.Sx Go.RowKit

def RetG (w : World) (l : List Rg) (er : Int) : Ending → World → Prop := fun e w' => ∃ a c, l.length ≤ c ∧ e = .returned (.tuple #[.slice a l.length c, .int .i64 er]) ∧ Fresh w w' fun w => SlR (CE encR) 3 w a l
theorem RetG.nil {w w' : World} (b : Below w.heap.size w w') (er : Int) : RetG w [] er (.returned (.tuple #[.slice none 0 0, .int .i64 er])) w' :=
 ⟨none, 0, Nat.le_refl _, rfl, ((St.nil w).pass b).imp fun _ _ => .inl rfl⟩
theorem RetG.of {w w' : World} {R : List Res} {P : World → Prop} (H : St (fun _ => False) [] w w' R P) {i : Nat} {a : Option Addr} {c : Nat} {l : List Rg} (hi : R[i]? = some (.els encR Ty_api_Range 3 a c l)) (er : Int) :
 RetG w l er (.returned (.tuple #[.slice a l.length c, .int .i64 er])) w' := ⟨a, c, H.capE hi, rfl, (H.freshRow hi).imp fun _ h => els_sl encR_ok h⟩
section
variable {l_a : Option Addr} {l : List Rg} {l_c : Nat} {w : World} {sn len : Int}
theorem clone_ranges (hs : SlR (CE encR) 3 w l_a l) (hl : l.length ≤ 1000000) :
 Calls Tryz.prog N_slices_Clone_Sapi_Range_api_Range #[(.slice l_a l.length l_c)] w fun e w' => ∃ a c, e = .returned (.slice a l.length c) ∧ FreshR w w' [.els encR Ty_api_Range 3 a c l] := by
 apply F_slices_Clone_Sapi_Range_api_Range_ok
 unfold F_slices_Clone_Sapi_Range_api_Range
 have H := St.nil w
 cases l_a with
 | none =>
  obtain rfl : l = [] := by
   rcases hs with h | ⟨b, hb, _⟩
   ·exact h
   ·cases hb
  exact ⟨none, 0, rfl, H.nilE encR Ty_api_Range 3⟩
 | some p =>
  refine bsplit_intro (fun h => by cases h) (fun _ => ?_)
  refine H.alloc ?_; clear H; intro b w1 H1
  have H1 := H1.litE encR_ok (i := 0) [] rfl (by decide)
  refine H1.appE encR_ok (i := 0) rfl sl_Ty_S_api_Range (hs.belowE H1.below) (by simp; omega) (by simp; omega) ?_; intro x_a x_c w2 H2
  exact ⟨x_a, x_c, rfl, H2⟩
end
end Go.Proofs.YtmbppohkadmjgaaGreat
namespace Go.Proofs.YtmbppohkadmjgaaGreat
open Go.Sx Go.RowKit

section
variable {l_a : Option Addr} {l : List Rg} {l_c : Nat} {w : World} {sn len : Int}
theorem segment_Gaps_ct (hs : SlR (CE encR) 3 w l_a l) (hl : l.length ≤ 1000000) :
 Calls Tryz.prog N_segment_Gaps #[(.slice l_a l.length l_c), (.int .i64 sn), (.int .i64 len)] w (RetG w (gapR l sn len).1 (gapR l sn len).2) := by
 apply F_segment_Gaps_ok
 unfold F_segment_Gaps
 have H := St.nil w
 refine (segment_Normal_ct hs (by omega)).mono ?_
 rintro _ w1 ⟨rfl, hb1⟩; have H1 := H.pass hb1; clear H
 refine ⟨_, rfl, ?_⟩
 refine bsplit_n (fun c6 => ?_) (fun c6 => ?_)
 ·have e : gapR l sn len = ([], 4) := if_pos c6
  rw [e]; exact .nil H1.below _
 have e0 : gapR l sn len = if len < 0 ∨ (0 < l.length ∧ len < prevT l l.length) then ([], 3) else (gapsS sn l 0 len, 0) := if_neg (by simp [c6])
 rw [e0]
 refine ⟨fun w2 => w2 = w1 ∧ ¬ (len < 0 ∨ (0 < l.length ∧ len < prevT l l.length)), ?_, ?_⟩
 ·rintro _ w2 ⟨rfl, hno⟩
  rw [if_neg hno, ← gapsA_end]
  refine (clone_ranges (hs.belowE H1.below) hl).mono ?_
  rintro _ w3 ⟨ca, cc, rfl, K⟩; have H3 := H1.callR K; clear H1
  refine ⟨_, _, _, rfl, ?_⟩
  refine H3.alloc ?_; clear H3; intro b1 w4 H4
  refine H4.appEB encR_ok (i := 0) (j := 1) rfl [⟨0, len, len⟩] rfl sl_Ty_S_api_Range rfl (by simp; omega) (by simp; omega) ?_; intro x_a x_c w5 H5
  have H5 := (H5.shareE encR_ok (i := 0) rfl).fin
  obtain ⟨m, hm⟩ : ∃ m, m = l ++ [⟨0, len, len⟩] := ⟨_, rfl⟩
  have hml : m.length = l.length + 1 := by rw [hm]; simp
  rw [← hm] at H5 ⊢
  have H5 := H5.nilE encR Ty_api_Range 3
  refine ⟨fun out_a out_l out_c at1 i => ((m.length - i).toNat, fun w3 => ∃ (k : Nat) (out : List Rg), k ≤ m.length ∧ i = k ∧ out_l = out.length ∧ out.length ≤ k ∧ gapsA sn m 0 = out ++ gapsA sn (m.drop k) at1 ∧ St (fun _ => False) [] w w3 [.els encR Ty_api_Range 3 out_a out_c out] (fun w => SlR (CE encR) 3 w x_a m)), ⟨0, [], by omega, rfl, rfl, by simp, rfl, H5.imp fun _ h => h.1⟩, ?_⟩
  clear H5
  rintro _ out_a out_l out_c at1 i w6 ⟨k, out, hk, rfl, rfl, hol, hI, H6⟩
  refine bsplit_dec (fun c4 => ?_) (fun c4 => ?_)
  ·have hlt : k < m.length := by omega
   rw [gapsA_drop _ _ _ _ hlt] at hI
   refine ixE H6.get k rfl hlt fun b s hsk hb => ?_
   obtain rfl : m[k] = s := by rw [List.getElem?_eq_getElem hlt] at hsk; injection hsk
   refine ⟨_, _, _, hb, ?_⟩
   refine H6.alloc ?_; clear H6; intro b3 w7 H7
   refine H7.store (i := 1) rfl (by rfl) (by rfl) ?_; clear H7; intro w8 H8
   refine H8.ld (i := 1) rfl rfl ?_
   refine bsplit_dec (fun c3 => ?_) (fun c3 => ?_)
   ·rw [if_pos c3] at hI
    refine H8.ld (i := 1) rfl rfl ?_
    refine H8.alloc ?_; clear H8; intro b4 w9 H9
    refine H9.appEB encR_ok (i := 0) (j := 2) rfl [⟨sn, at1, m[k].f⟩] rfl sl_Ty_S_api_Range rfl (by simp; omega) (by simp; omega) ?_; intro x_a1 x_c1 w10 H10
    refine H10.ld (i := 1) rfl rfl ?_
    refine kW_i64 (by omega) ?_
    refine ⟨⟨k + 1, _, by omega, by omega, rfl, by simp; omega, by rw [hI]; simp, H10.sub (fun i => i) ?_ (fun _ _ _ _ h => h)⟩, by show Int.toNat _ < Int.toNat _; omega⟩
    rintro (_ | _) r h <;> first | exact h | cases h
   ·rw [if_neg c3] at hI
    refine H8.ld (i := 1) rfl rfl ?_
    refine kW_i64 (by omega) ?_
    refine ⟨⟨k + 1, out, by omega, by omega, rfl, by omega, hI, H8.sub (fun i => i) ?_ (fun _ _ _ _ h => h)⟩, by show Int.toNat _ < Int.toNat _; omega⟩
    rintro (_ | _) r h <;> first | exact h | cases h
  ·obtain rfl : k = m.length := by omega
   rw [List.drop_length] at hI
   rw [show gapsA sn m 0 = out by rw [hI]; simp [gapsA]]
   exact .of H6 (i := 0) rfl 0
 ·refine bsplit_dec (fun c2 => ?_) (fun c2 => ?_)
  ·rw [if_pos (.inl c2)]; exact .nil H1.below _
  ·refine bsplit_dec (fun c1 => ?_) (fun c1 => ⟨rfl, by omega⟩)
   have hlt : l.length - 1 < l.length := by omega
   refine kW_i64 (by omega) ?_
   refine ixE (hs.belowE H1.below) (l.length - 1) (by omega) hlt fun b s hsk hb => ?_
   refine ld_at hb 2 rfl ?_
   have hp : prevT l l.length = s.t := by
    have := prevT_succ hlt
    rw [show l.length - 1 + 1 = l.length by omega] at this
    rw [this]
    rw [List.getElem?_eq_getElem hlt] at hsk; injection hsk with hsk; rw [hsk]
   refine bsplit_dec (fun c => ?_) (fun c => ?_)
   ·rw [if_pos (.inr ⟨by omega, by rw [hp]; exact c⟩)]; exact .nil H1.below _
   ·exact ⟨rfl, by rw [hp]; omega⟩
end
end Go.Proofs.YtmbppohkadmjgaaGreat
namespace Go.Proofs.YtmbppohkadmjgaaGreat
open Go.Sx Go.RowKit

section
variable {w : World}
theorem grow_ranges {n : Nat} (hn : n ≤ 1000000) :
 Calls Tryz.prog N_slices_Grow_Sapi_Range_api_Range #[(.slice none 0 0), (.int .i64 (n : Int))] w fun e w' => ∃ a c, e = .returned (.slice a 0 c) ∧ FreshR w w' [.els encR Ty_api_Range 3 a c []] := by
 apply F_slices_Grow_Sapi_Range_api_Range_ok
 unfold F_slices_Grow_Sapi_Range_api_Range
 have H := St.nil w
 refine ⟨fun w1 => w1 = w, ?_, bsplit_dec (fun c => by omega) (fun c => rfl)⟩
 rintro _ w1 rfl
 refine kW_i64 (by omega) ?_
 refine kW_i64 (by omega) ?_
 refine bsplit_dec (fun c1 => ?_) (fun c1 => ⟨none, 0, rfl, H.nilE encR Ty_api_Range 3⟩)
 refine ⟨⟨by omega, by omega⟩, ?_⟩
 rw [slAddr_zero]
 refine H.appZ0 sl_Ty_S_api_Range (k2 := .i64) (by kernel_rfl) n (by omega) (by omega) (by omega) (by omega) ?_; intro x_a x_c w2 H2
 refine ⟨⟨by omega, by omega⟩, ?_⟩
 rw [slAddr_zero]
 have H2 := H2.shrink (i := 0) rfl 0 (Nat.zero_le _)
 exact ⟨x_a, x_c, rfl, by simpa [Res.els] using H2⟩
def PartG (w : World) (p : Addr) (l : List Rg) : Prop := ∃ a c, w.cell? p = some (.slice a l.length c) ∧ SlR (CE encR) 3 w a l
theorem PartG.below {w w' : World} {p : Addr} {l : List Rg} (h : PartG w p l) (hb : Below w.heap.size w w') : PartG w' p l := by
 obtain ⟨a, c, h1, h2⟩ := h
 exact ⟨a, c, hb.get h1, h2.belowE hb⟩
theorem concat_ranges {pa : Option Addr} {pc : Nat} {ps : List (List Rg)} (hs : SlR PartG 1 w pa ps) (hl : ps.flatten.length ≤ 1000000) (hpl : ps.length ≤ 1000) :
 Calls Tryz.prog N_slices_Concat_Sapi_Range_api_Range #[(.slice pa ps.length pc)] w fun e w' => ∃ a c, e = .returned (.slice a ps.flatten.length c) ∧ FreshR w w' [.els encR Ty_api_Range 3 a c ps.flatten] := by
 apply F_slices_Concat_Sapi_Range_api_Range_ok
 unfold F_slices_Concat_Sapi_Range_api_Range
 have H := St.nil w
 have part : ∀ k (hk : k < ps.length), (ps.take (k + 1)).flatten = (ps.take k).flatten ++ ps[k] := fun k hk => by
  rw [List.take_add_one, List.getElem?_eq_getElem hk, Option.toList_some, List.flatten_append]; simp
 have le : ∀ k, (ps.take k).flatten.length ≤ ps.flatten.length := fun k => by
  have : ps.flatten.length = (ps.take k).flatten.length + (ps.drop k).flatten.length := by rw [← List.length_append, ← List.flatten_append, List.take_append_drop]
  omega
 have rd : ∀ {w2 : World} (k : Nat) (hk : k < ps.length) {F : Addr → Prop}, Below w.heap.size w w2 → (∀ b, PartG w2 (b.add ((k : Int).toNat * 1)) ps[k] → F b) → kIx pa ps.length (k : Int) F := fun k hk F hb2 h => by
  refine ixE (hs.keep fun _ _ hc => hc.below hb2) k rfl hk fun b s hsk hb => ?_
  obtain rfl : ps[k] = s := by rw [List.getElem?_eq_getElem hk] at hsk; injection hsk
  exact h b hb
 refine ⟨fun size x => ((ps.length - x).toNat, fun w1 => ∃ k : Nat, k ≤ ps.length ∧ x = k ∧ size = ((ps.take k).flatten.length : Nat) ∧ FreshR w w1 []), ⟨0, by omega, rfl, by simp, H⟩, ?_⟩
 clear H
 rintro _ size x w1 ⟨k, hk, rfl, rfl, H1⟩
 refine bsplit_dec (fun c2 => ?_) (fun c2 => ?_)
 ·have hlt : k < ps.length := by omega
  have e1 := congrArg List.length (part k hlt)
  have e2 := le (k + 1)
  rw [List.length_append] at e1
  refine rd k hlt H1.below fun b hb => ?_
  obtain ⟨a, c, h1, h2⟩ := hb
  refine ⟨_, _, _, h1, ?_⟩
  refine kW_i64 (by omega) ?_
  refine bsplit_dec (fun c => by omega) (fun c => ?_)
  refine kW_i64 (by omega) ?_
  exact ⟨⟨k + 1, by omega, by omega, by omega, H1⟩, by dsimp only; omega⟩
 ·obtain rfl : k = ps.length := by omega
  rw [List.take_length]
  refine (grow_ranges hl).mono ?_
  rintro _ w2 ⟨ga, gc, rfl, K⟩; have H2 := H1.callR K; clear H1
  refine ⟨_, _, _, rfl, ?_⟩
  refine ⟨fun na nl nc x => ((ps.length - x).toNat, fun w3 => ∃ k : Nat, k ≤ ps.length ∧ x = k ∧ nl = (ps.take k).flatten.length ∧ FreshR w w3 [.els encR Ty_api_Range 3 na nc (ps.take k).flatten]), ⟨0, by omega, rfl, by simp, by simpa using H2⟩, ?_⟩
  clear H2
  rintro _ na nl nc x w3 ⟨k, hk2, rfl, rfl, H3⟩
  refine bsplit_dec (fun c1 => ?_) (fun c1 => ?_)
  ·have hlt : k < ps.length := by omega
   have e1 := congrArg List.length (part k hlt)
   have e2 := le (k + 1)
   rw [List.length_append] at e1
   refine rd k hlt H3.below fun b hb => ?_
   obtain ⟨a, c, h1, h2⟩ := hb
   refine ⟨_, _, _, h1, ?_⟩
   refine H3.appE encR_ok (i := 0) rfl sl_Ty_S_api_Range h2 (by omega) (by omega) ?_; intro x_a2 x_c2 w4 H4
   rw [← part k hlt] at H4 ⊢
   refine kW_i64 (by omega) ?_
   exact ⟨⟨k + 1, by omega, by omega, rfl, H4⟩, by show Int.toNat _ < Int.toNat _; omega⟩
  ·obtain rfl : k = ps.length := by omega
   rw [List.take_length] at H3 ⊢
   exact ⟨_, _, rfl, H3⟩
end
end Go.Proofs.YtmbppohkadmjgaaGreat
namespace Go.Proofs.YtmbppohkadmjgaaGreat
open Go.Sx Go.RowKit

section
variable {l_a : Option Addr} {l : List Rg} {l_c : Nat} {w : World} {r : Rg}
theorem segment_Union_ct (hs : SlR (CE encR) 3 w l_a l) (hl : l.length ≤ 900000) :
 Calls Tryz.prog N_segment_Union #[(.slice l_a l.length l_c), (.agg #[.int .i64 r.sn, .int .i64 r.f, .int .i64 r.t])] w (RetG w (unionR l r).1 (unionR l r).2) := by
 apply F_segment_Union_ok
 unfold F_segment_Union
 have H := St.nil w
 refine H.alloc ?_; clear H; intro b w1 H1
 refine ⟨fun  w5 => St (fun _ => False) [] w w5 [.blk b Ty_api_Range (encR r)] (fun _ => True) ∧ normB (-1) l = true ∧ normB (-1) [r] = true, ?_, ?_⟩
 ·rintro _  w5 ⟨H5, hn, hr⟩
  have e0 : unionR l r = (unionS r.sn l r.f r.t, 0) := if_neg (by simp [hn, hr])
  rw [e0]
  have hrt : r.f < r.t := by simp [normB] at hr; exact hr.2
  have H5 := (H5.nilE encR Ty_api_Range 3).nilE encR Ty_api_Range 3
  refine ⟨fun ba bl bc ha hl_ hc x => ((l.length - x).toNat, fun w6 => ∃ (k : Nat) (before behind : List Rg) (f t : Int), k ≤ l.length ∧ x = k ∧ bl = before.length ∧ hl_ = behind.length ∧ UnionI r.sn l r.f r.t k before behind f t ∧
   St (fun _ => False) [] w w6 [.blk b Ty_api_Range (encR ⟨r.sn, f, t⟩), .els encR Ty_api_Range 3 ba bc before, .els encR Ty_api_Range 3 ha hc behind] (fun _ => True)), ⟨0, [], [], r.f, r.t, by omega, rfl, rfl, rfl, .zero hrt hn, H5⟩, ?_⟩
  clear H5
  rintro _ ba bl bc ha hl_ hc x w6 ⟨k, before, behind, f, t, hk, rfl, rfl, rfl, hI, H6⟩
  have hlen := hI.2.1
  refine bsplit_dec (fun c4 => ?_) (fun c4 => ?_)
  ·have hlt : k < l.length := by omega
   obtain ⟨s1, s2, s3⟩ := hI.step hlt
   refine ixE (hs.belowE H6.below) k rfl hlt fun b2 s hsk hb => ?_
   obtain rfl : l[k] = s := by rw [List.getElem?_eq_getElem hlt] at hsk; injection hsk
   refine ⟨_, _, _, hb, ?_⟩
   refine H6.alloc ?_; clear H6; intro b3 w7 H7
   refine H7.store (i := 3) rfl (by rfl) (by rfl) ?_; clear H7; intro w8 H8
   refine H8.ld (i := 0) rfl rfl ?_
   refine H8.set (i := 3) rfl (by simp) ?_; clear H8; intro w9 H9
   refine H9.ld (i := 3) rfl rfl ?_
   refine H9.ld (i := 0) rfl rfl ?_
   refine kLet_in ?_
   refine bsplit_dec (fun c3 => ?_) (fun c3 => ?_)
   ·refine ⟨_, _, _, H9.cells (i := 3) rfl, ?_⟩
    refine H9.alloc ?_; clear H9; intro b4 w10 H10
    refine H10.appEB encR_ok (i := 1) (j := 4) rfl [sn_ r.sn l[k]] rfl sl_Ty_S_api_Range rfl (by simp; omega) (by simp; omega) ?_; intro x_a x_c w11 H11
    refine kW_i64 (by omega) ?_
    refine ⟨⟨k + 1, _, behind, f, t, by omega, by omega, rfl, rfl, s1 c3, H11.sub (fun i => i) ?_ (fun _ _ _ _ h => h)⟩, by show Int.toNat _ < Int.toNat _; omega⟩
    rintro (_ | _ | _ | _) r h <;> first | exact h | cases h
   ·refine H9.ld (i := 3) rfl rfl ?_
    refine H9.ld (i := 0) rfl rfl ?_
    refine kLet_in ?_
    refine bsplit_dec (fun c2 => ?_) (fun c2 => ?_)
    ·refine ⟨_, _, _, H9.cells (i := 3) rfl, ?_⟩
     refine H9.alloc ?_; clear H9; intro b5 w12 H12
     refine H12.appEB encR_ok (i := 2) (j := 4) rfl [sn_ r.sn l[k]] rfl sl_Ty_S_api_Range rfl (by simp; omega) (by simp; omega) ?_; intro x_a x_c w11 H11
     refine kW_i64 (by omega) ?_
     refine ⟨⟨k + 1, before, _, f, t, by omega, by omega, rfl, rfl, s2 c3 c2, H11.sub (fun i => i) ?_ (fun _ _ _ _ h => h)⟩, by show Int.toNat _ < Int.toNat _; omega⟩
     rintro (_ | _ | _ | _) r h <;> first | exact h | cases h
    ·refine H9.drew ?_; clear H9; intro w14 H14
     refine ⟨fun x => x < w14.heap.size ∧ x ∉ [b], ?_⟩
     have f14 := Fr.refl [b] w14
     refine H14.ld (i := 0) rfl rfl ?_
     refine H14.ld (i := 3) rfl rfl ?_
     refine H14.ld (i := 0) rfl rfl ?_
     refine ⟨⟨H14.lt (i := 3) rfl rfl, nin1 (H14.ne (i := 3) (j := 0) rfl rfl (by decide) rfl rfl)⟩, ?_⟩
     refine H14.ld (i := 3) rfl rfl ?_
     refine H14.setF (i := 0) rfl (by simp [encR]) ?_; intro w15 g15 H15
     have f15 := f14.tr g15 (by simp)
     refine ⟨f15.keeps, ?_⟩
     refine H15.set (i := 0) rfl (by simp [encR]) ?_; intro w16 H16
     refine kW_i64 (by omega) ?_
     refine ⟨⟨k + 1, before, behind, _, _, by omega, by omega, rfl, rfl, s3 c3 c2, H16.sub (fun i => i) ?_ (fun _ _ _ _ h => h)⟩, by show Int.toNat _ < Int.toNat _; omega⟩
     rintro (_ | _ | _ | _) r h <;> first | exact h | cases h
  ·obtain rfl : k = l.length := by omega
   rw [hI.done]
   refine ⟨_, _, _, H6.cells (i := 0) rfl, ?_⟩
   refine H6.alloc ?_; clear H6; intro b6 w17 H17
   have H17 := H17.shareE encR_ok (i := 1) rfl
   have H17 := H17.shareE encR_ok (i := 2) rfl
   have H17 := H17.litE encR_ok (i := 3) [⟨r.sn, f, t⟩] rfl (by simp [maxLen])
   have H17 := H17.shareE encR_ok (i := 3) rfl
   refine H17.alloc ?_; clear H17; intro b7 w18 H18
   have h18 := H18.get
   have hp : SlR PartG 1 w18 (some ⟨b7, 0, none⟩) [before, [⟨r.sn, f, t⟩], behind] := by
    refine .inr ⟨_, rfl, fun i hi => ?_⟩
    rcases i with _ | _ | _ | i
    ·exact ⟨_, _, H18.cell (i := 4) rfl rfl, h18.2.2.1⟩
    ·exact ⟨_, _, H18.cell (i := 4) rfl rfl, h18.1⟩
    ·exact ⟨_, _, H18.cell (i := 4) rfl rfl, h18.2.1⟩
    ·simp at hi; omega
   refine (concat_ranges (ps := [before, [⟨r.sn, f, t⟩], behind]) hp (by simp; omega) (by simp)).mono ?_
   rintro _ w19 ⟨ra, rc, rfl, K⟩; have H19 := H18.callR K; clear H18
   refine ⟨_, _, _, rfl, ?_⟩
   have ef : [before, [⟨r.sn, f, t⟩], behind].flatten = before ++ ⟨r.sn, f, t⟩ :: behind := by simp
   rw [ef] at H19 ⊢
   exact .of H19 (i := 5) rfl 0
 ·refine (segment_Normal_ct (hs.belowE H1.below) (by omega)).mono ?_
  rintro _ w2 ⟨rfl, hb2⟩; have H2 := H1.pass hb2; clear H1
  refine ⟨_, rfl, ?_⟩
  refine bsplit_n (fun c1 => ?_) (fun c1 => ?_)
  ·have e : unionR l r = ([], 4) := if_pos (.inl c1)
   rw [e]; exact .nil H2.fin.below _
  ·refine ⟨_, _, _, H2.cells (i := 0) rfl, ?_⟩
   refine H2.alloc ?_; clear H2; intro b1 w3 H3
   refine (segment_Normal_ct (l := [r]) (H3.slBlk encR_ok (i := 1) _ rfl) (by simp)).mono ?_
   rintro _ w4 ⟨rfl, hb4⟩; have H4 := H3.pass hb4; clear H3
   refine ⟨_, rfl, ?_⟩
   refine bsplit_n (fun c => ?_) (fun c => ?_)
   ·have e : unionR l r = ([], 4) := if_pos (.inr c)
    rw [e]; exact .nil H4.fin.below _
   ·refine ⟨H4.sub (fun i => i) ?_ (fun _ _ _ _ h => h), c1, c⟩
    rintro (_ | _) r h <;> first | exact h | cases h
end
end Go.Proofs.YtmbppohkadmjgaaGreat
namespace Go.Proofs.YtmbppohkadmjgaaGreat
open Go.Sx Go.RowKit

section
variable {l_a : Option Addr} {l : List Rg} {l_c : Nat} {w : World} {r : Rg}
end
end Go.Proofs.YtmbppohkadmjgaaGreat
namespace Go.Proofs.YtmbppohkadmjgaaGreat
open Go.Sx Go.RowKit
end Go.Proofs.YtmbppohkadmjgaaGreat
namespace Go.Sx
open Go.RowKit
theorem bAnd_any {x : Int} (k : Nat) (hk : k ≤ 62) {m : Int} (hm : m = 2 ^ k - 1) : bAnd .i64 x m = x % 2 ^ k := by
 have h1 : (2 : Nat) ^ k ≤ 2 ^ 62 := Nat.pow_le_pow_right (by decide) hk
 have h2 : 0 < (2 : Nat) ^ k := Nat.pow_pos (by decide)
 have e1 : bAnd .i64 x m = bAnd .i64 (((x % 18446744073709551616).toNat : Nat) : Int) m := by
  have hx : BitVec.ofInt 64 x = BitVec.ofInt 64 (((x % 18446744073709551616).toNat : Nat) : Int) := by
   apply BitVec.eq_of_toNat_eq
   rw [BitVec.toNat_ofInt, BitVec.toNat_ofInt]
   have := Int.emod_nonneg x (show (18446744073709551616 : Int) ≠ 0 by decide)
   rw [Int.toNat_of_nonneg this]
   show (x % 18446744073709551616).toNat = (x % 18446744073709551616 % 18446744073709551616).toNat
   rw [Int.emod_emod]
  unfold bAnd
  show IntKind.wrap .i64 ((BitVec.ofInt 64 x &&& _).toNat : Int) = IntKind.wrap .i64 ((BitVec.ofInt 64 _ &&& _).toNat : Int)
  rw [hx]
 rw [e1]
 rw [pow_cast] at hm ⊢
 have hm2 : m = ((2 ^ k - 1 : Nat) : Int) := by omega
 subst hm2
 have hx0 := Int.emod_nonneg x (show (18446744073709551616 : Int) ≠ 0 by decide)
 have hx1 := Int.emod_lt_of_pos x (show (0 : Int) < 18446744073709551616 by decide)
 rw [bAnd_nat .i64 _ _ (by show _ < 2 ^ 64; omega) (by show _ < 2 ^ 64; omega), Nat.and_two_pow_sub_one_eq_mod]
 have := Nat.mod_lt (x % 18446744073709551616).toNat h2
 rw [wrap_id _ (by omega), Int.natCast_emod, Int.toNat_of_nonneg hx0]
 refine Int.emod_emod_of_dvd _ ?_
 have : (18446744073709551616 : Int) = ((2 ^ 64 : Nat) : Int) := by decide
 rw [this]
 exact Int.natCast_dvd_natCast.2 (Nat.pow_dvd_pow 2 (by omega))
theorem wrap_mod (e : Int) (k : Nat) (hk : k ≤ 62) : IntKind.wrap .i64 e % 2 ^ k = e % 2 ^ k := by
 have hd : (2 : Int) ^ k ∣ 18446744073709551616 := by
  have : (18446744073709551616 : Int) = ((2 ^ 64 : Nat) : Int) := by decide
  rw [this, pow_cast]
  exact Int.natCast_dvd_natCast.2 (Nat.pow_dvd_pow 2 (by omega))
 have e0 : ∃ q : Int, IntKind.wrap .i64 e = e + 18446744073709551616 * q := by
  have h := Int.emod_add_mul_ediv e 18446744073709551616
  by_cases hc : e % 18446744073709551616 ≥ 9223372036854775808
  ·refine ⟨-(e / 18446744073709551616) - 1, ?_⟩
   have : IntKind.wrap .i64 e = e % 18446744073709551616 - 18446744073709551616 := if_pos (decide_eq_true hc)
   rw [this]; omega
  ·refine ⟨-(e / 18446744073709551616), ?_⟩
   have : IntKind.wrap .i64 e = e % 18446744073709551616 := if_neg (fun h' => hc (of_decide_eq_true h'))
   rw [this]; omega
 obtain ⟨q, hq⟩ := e0
 obtain ⟨d, hd⟩ := hd
 rw [hq, hd, Int.mul_assoc, Int.add_mul_emod_self_left]
def way (n a b : Int) : Int := (b - a) % 2 ^ n.toNat
theorem way_range (n a b : Int) : 0 ≤ way n a b ∧ way n a b < 2 ^ n.toNat := by
 have : (0 : Int) < 2 ^ n.toNat := by rw [pow_cast]; have := Nat.pow_pos (n := n.toNat) (show 0 < 2 by decide); omega
 exact ⟨Int.emod_nonneg _ (by omega), Int.emod_lt_of_pos _ this⟩
end Go.Sx
namespace Go.Proofs.YtmbppohkadmjgaaGreat
open Go.Sx Go.RowKit

section
variable {n x a b : Int} {w : World}
theorem serial_valid_ct :
 Calls Tryz.prog N_serial_valid #[(.int .i64 n)] w fun e w' => e = .returned (.bool (decide (1 ≤ n ∧ n ≤ 32))) ∧ Below w.heap.size w w' := by
 apply F_serial_valid_ok
 unfold F_serial_valid
 have H := St.nil w
 refine bsplit_dec (fun c => ?_) (fun c => ?_)
 ·refine kLet_in ?_
  exact ⟨retD (by omega), H.below⟩
 ·exact ⟨retF (by omega), H.below⟩
theorem serial_Low_ct :
 Calls Tryz.prog N_serial_Low #[(.int .i64 n), (.int .i64 x)] w fun e w' => e = .returned (.int .i64 (if 1 ≤ n ∧ n ≤ 32 then x % 2 ^ n.toNat else -1)) ∧ Below w.heap.size w w' := by
 apply F_serial_Low_ok
 unfold F_serial_Low
 have H := St.nil w
 refine serial_valid_ct.mono ?_
 rintro _ w1 ⟨rfl, hb1⟩; have H1 := H.pass hb1; clear H
 refine ⟨_, rfl, ?_⟩
 refine bsplit_nd (fun c => ?_) (fun c => ?_)
 ·exact ⟨by rw [if_neg c], H1.below⟩
 ·have hp := pow62 (n := n.toNat) (by omega)
  refine ⟨by omega, ?_⟩
  refine kShl1 (by omega) ?_
  refine kW_i64 (by omega) ?_
  refine kLet_intro fun x3 hx3 => ?_
  rw [bAnd_any n.toNat (by omega) rfl] at hx3
  exact ⟨by rw [if_pos c, hx3], H1.below⟩
theorem serial_Distance_ct :
 Calls Tryz.prog N_serial_Distance #[(.int .i64 n), (.int .i64 a), (.int .i64 b)] w fun e w' => e = .returned (.int .i64 (if 1 ≤ n ∧ n ≤ 32 then way n a b else -1)) ∧ Below w.heap.size w w' := by
 apply F_serial_Distance_ok
 unfold F_serial_Distance
 have H := St.nil w
 refine kW_intro fun y hy => ?_
 refine serial_Low_ct.mono ?_
 rintro _ w1 ⟨rfl, hb1⟩; have H1 := H.pass hb1; clear H
 refine ⟨_, rfl, ?_⟩
 refine ⟨?_, H1.below⟩
 by_cases c : 1 ≤ n ∧ n ≤ 32
 ·rw [if_pos c, if_pos c, hy, wrap_mod _ _ (by omega)]; rfl
 ·rw [if_neg c, if_neg c]
end
section
variable {n x a b : Int} {w : World}
theorem ref02_valid_ct :
 Calls Tryz.prog N_ref02_valid #[(.int .i64 n)] w fun e w' => e = .returned (.bool (decide (1 ≤ n ∧ n ≤ 32))) ∧ Below w.heap.size w w' := by
 apply F_ref02_valid_ok
 unfold F_ref02_valid
 have H := St.nil w
 refine bsplit_dec (fun c => ?_) (fun c => ?_)
 ·refine kLet_in ?_
  exact ⟨retD (by omega), H.below⟩
 ·exact ⟨retF (by omega), H.below⟩
theorem ref02_Low_ct :
 Calls Tryz.prog N_ref02_Low #[(.int .i64 n), (.int .i64 x)] w fun e w' => e = .returned (.int .i64 (if 1 ≤ n ∧ n ≤ 32 then x % 2 ^ n.toNat else -1)) ∧ Below w.heap.size w w' := by
 apply F_ref02_Low_ok
 unfold F_ref02_Low
 have H := St.nil w
 refine ref02_valid_ct.mono ?_
 rintro _ w1 ⟨rfl, hb1⟩; have H1 := H.pass hb1; clear H
 refine ⟨_, rfl, ?_⟩
 refine bsplit_nd (fun c => ?_) (fun c => ?_)
 ·exact ⟨by rw [if_neg c], H1.below⟩
 ·have hp := pow62 (n := n.toNat) (by omega)
  refine kW_u64 (by omega) ?_
  refine ⟨by omega, ?_⟩
  refine kShl1 (by omega) ?_
  refine kW_i64 (by omega) ?_
  refine kLet_intro fun x3 hx3 => ?_
  rw [bAnd_any n.toNat (by omega) rfl] at hx3
  exact ⟨by rw [if_pos c, hx3], H1.below⟩
theorem ref02_Distance_ct :
 Calls Tryz.prog N_ref02_Distance #[(.int .i64 n), (.int .i64 a), (.int .i64 b)] w fun e w' => e = .returned (.int .i64 (if 1 ≤ n ∧ n ≤ 32 then way n a b else -1)) ∧ Below w.heap.size w w' := by
 apply F_ref02_Distance_ok
 unfold F_ref02_Distance
 have H := St.nil w
 refine ref02_valid_ct.mono ?_
 rintro _ w1 ⟨rfl, hb1⟩; have H1 := H.pass hb1; clear H
 refine ⟨_, rfl, ?_⟩
 refine bsplit_nd (fun c => ?_) (fun c => ?_)
 ·exact ⟨by rw [if_neg c], H1.below⟩
 ·have hp := pow62 (n := n.toNat) (by omega)
  refine ref02_Low_ct.mono ?_
  rintro _ w2 ⟨rfl, hb2⟩; have H2 := H1.pass hb2; clear H1
  refine ⟨_, rfl, ?_⟩
  refine ref02_Low_ct.mono ?_
  rintro _ w3 ⟨rfl, hb3⟩; have H3 := H2.pass hb3; clear H2
  refine ⟨_, rfl, ?_⟩
  rw [if_pos c, if_pos c]
  have ra : 0 ≤ a % 2 ^ n.toNat ∧ a % 2 ^ n.toNat < 2 ^ n.toNat := ⟨Int.emod_nonneg _ (by omega), Int.emod_lt_of_pos _ (by omega)⟩
  have rb : 0 ≤ b % 2 ^ n.toNat ∧ b % 2 ^ n.toNat < 2 ^ n.toNat := ⟨Int.emod_nonneg _ (by omega), Int.emod_lt_of_pos _ (by omega)⟩
  refine kW_i64 (by omega) ?_
  refine kW_u64 (by omega) ?_
  refine ⟨by omega, ?_⟩
  refine kShl1 (by omega) ?_
  refine kW_i64 (by omega) ?_
  refine kLet_intro fun x4 hx4 => ?_
  rw [bAnd_any n.toNat (by omega) rfl] at hx4
  refine ⟨?_, H3.below⟩
  rw [if_pos c, hx4]
  unfold way
  rw [← Int.sub_emod]
end
end Go.Proofs.YtmbppohkadmjgaaGreat
namespace Go.Proofs.YtmbppohkadmjgaaGreat
open Go.Sx Go.RowKit
section
variable {l_a b_a : Option Addr} {l m : List Rg} {l_c b_c : Nat} {k : Int} {w : World}
end
end Go.Proofs.YtmbppohkadmjgaaGreat
namespace Go.Proofs.YtmbppohkadmjgaaGreat
open Go.Sx Go.RowKit
theorem bytes_Equal_ct {a b : Option Addr} {c1 c2 : Nat} {xs ys : List Int} {w : World} (ha : SlR (IntC .u8) 1 w a xs) (hb : SlR (IntC .u8) 1 w b ys) (hx : Bytes xs) (hy : Bytes ys) :
 Calls Tryz.prog N_bytes_Equal #[.slice a xs.length c1, .slice b ys.length c2] w fun e w' => e = .returned (.bool (decide (xs = ys))) ∧ Below w.heap.size w w' := by
 apply F_bytes_Equal_ok
 unfold F_bytes_Equal
 refine convS_bytes (e := Ty_uint8) (by kernel_rfl) (by kernel_rfl) (by kernel_rfl) ha ?_
 refine convS_bytes (e := Ty_uint8) (by kernel_rfl) (by kernel_rfl) (by kernel_rfl) hb ?_
 refine ⟨?_, .refl _ _⟩
 rw [str_beq hx hy]
theorem ref01_Same_ct {a b : Option Addr} {c1 c2 : Nat} {xs ys : List Int} {w : World} (ha : SlR (IntC .u8) 1 w a xs) (hb : SlR (IntC .u8) 1 w b ys) (hx : Bytes xs) (hy : Bytes ys) :
 Calls Tryz.prog N_ref01_Same #[.slice a xs.length c1, .slice b ys.length c2] w fun e w' => e = .returned (.bool (decide (xs = ys))) ∧ Below w.heap.size w w' := by
 apply F_ref01_Same_ok
 unfold F_ref01_Same
 refine convS_bytes (e := Ty_uint8) (by kernel_rfl) (by kernel_rfl) (by kernel_rfl) ha ?_
 refine convS_bytes (e := Ty_uint8) (by kernel_rfl) (by kernel_rfl) (by kernel_rfl) hb ?_
 refine ⟨?_, .refl _ _⟩
 rw [str_beq hx hy]
end Go.Proofs.YtmbppohkadmjgaaGreat
namespace Go.Proofs.YtmbppohkadmjgaaGreat
open Go.Sx Go.RowKit
section
variable {g : Nat} {a : Option Addr} {c : Nat} {ts : List Int} {p : Nat} {w : World} {A : Nat → Prop} {P : World → Prop} {sn most : Int}
end
end Go.Proofs.YtmbppohkadmjgaaGreat
namespace Go.Proofs.YtmbppohkadmjgaaGreat
open Go.Sx Go.RowKit
def R64 (x : Rg) : Prop := (-9223372036854775808 ≤ x.sn ∧ x.sn ≤ 9223372036854775807) ∧ (-9223372036854775808 ≤ x.f ∧ x.f ≤ 9223372036854775807) ∧ (-9223372036854775808 ≤ x.t ∧ x.t ≤ 9223372036854775807)
theorem wrap64 (e : Int) : -9223372036854775808 ≤ IntKind.wrap .i64 e ∧ IntKind.wrap .i64 e ≤ 9223372036854775807 := by
 have h1 := Int.emod_nonneg e (show (18446744073709551616 : Int) ≠ 0 by decide)
 have h2 := Int.emod_lt_of_pos e (show (0 : Int) < 18446744073709551616 by decide)
 have e0 : IntKind.wrap .i64 e = if e % 18446744073709551616 ≥ 9223372036854775808 then e % 18446744073709551616 - 18446744073709551616 else e % 18446744073709551616 := by
  unfold IntKind.wrap
  by_cases h : e % 18446744073709551616 ≥ 9223372036854775808
  ·rw [if_pos h]; exact if_pos (decide_eq_true h)
  ·rw [if_neg h]; exact if_neg (fun h' => h (of_decide_eq_true h'))
 rw [e0]
 split <;> omega
theorem mem_setE {α : Type} {p : α → Prop} {l : List α} {k : Nat} {x : α} (h : ∀ y ∈ l, p y) (hx : p x) : ∀ y ∈ l.set k x, p y := fun y hy => by
 rcases List.mem_or_eq_of_mem_set hy with h' | h'
 ·exact h y h'
 ·rw [h']; exact hx
section
variable {g : Nat} {a : Option Addr} {c : Nat} {ts : List Int} {p : Nat} {w : World} {A : Nat → Prop} {P : World → Prop} {l_a : Option Addr} {l : List Rg} {l_c : Nat}
end
section
variable {A0 : Nat → Prop} {M : List Nat} {w0 w : World} {R : List Res} {P : World → Prop} {i g : Nat} {a : Option Addr} {c : Nat} {ts : List Int} {p : Nat}
end
end Go.Proofs.YtmbppohkadmjgaaGreat
namespace Go.Proofs.YtmbppohkadmjgaaGreat
open Go.Sx Go.RowKit
theorem dec_enc {b : Int} {p : Pc} (h : p.ok b) : decP b p.bytes = (p, 0) := by
 obtain ⟨sn, part, poll, off, d⟩ := p
 have hf := Pc.first_range h
 obtain ⟨hb, h0, h1, h2, h3, h4, h5, h6⟩ := h
 simp only at h0 h1 h2 h3 h4 h5 h6
 have hp := pow_bits hb
 obtain ⟨f, hfe⟩ : ∃ f, f = Pc.first ⟨sn, part, poll, off, d⟩ := ⟨_, rfl⟩
 have hfe2 := hfe
 simp only [Pc.first] at hfe2
 rw [← hfe] at hf
 have g0 : (Pc.bytes ⟨sn, part, poll, off, d⟩).getD 0 0 = f / 256 := by rw [hfe]; rfl
 have g1 : (Pc.bytes ⟨sn, part, poll, off, d⟩).getD 1 0 = f % 256 := by rw [hfe]; rfl
 have ef : 256 * (Pc.bytes ⟨sn, part, poll, off, d⟩).getD 0 0 + (Pc.bytes ⟨sn, part, poll, off, d⟩).getD 1 0 = f := by rw [g0, g1]; omega
 have hraw : rawP (Pc.bytes ⟨sn, part, poll, off, d⟩) = ⟨sn, part, poll, off, d⟩ := by
  unfold rawP
  simp only [ef]
  have e1 : f % 4096 = sn := by omega
  have e2 : f / 4096 % 4 = part := by omega
  have e3 : f / 16384 % 2 = poll := by omega
  rw [e1, e2, e3]
  rcases headN_cases part with ⟨hc, hh⟩ | ⟨hc, hh⟩
  ·rw [if_pos hc, hh]
   simp only [Pc.bytes, if_pos hc, List.append_nil]
   have : off = 0 := by omega
   rw [this]; rfl
  ·rw [if_neg hc, hh]
   simp only [Pc.bytes, if_neg hc]
   have : 256 * (off / 256) + off % 256 = off := by omega
   simp [this]
 have hlen : (Pc.bytes ⟨sn, part, poll, off, d⟩).length = headN part + d.length := by
  unfold Pc.bytes headN
  split <;> simp <;> omega
 unfold decP
 rw [if_neg (by simpa using hb), if_neg (by have := headN_cases part; omega), hraw, if_neg (by simp only; omega), if_neg (by
  rw [g0]; simp only [not_or, Decidable.not_not]
  exact ⟨by omega, hb, h0, h1, h2, h3, h4, h5, h6⟩)]
end Go.Proofs.YtmbppohkadmjgaaGreat
namespace Go.Sx
open Go.RowKit
def putN : Nat → Int → List Int
 | 0, _ => []
 | n + 1, v => v / 2 ^ (8 * n) % 256 :: putN n v
theorem putN_len (v : Int) : ∀ n, (putN n v).length = n
 | 0 => rfl
 | n + 1 => by simp [putN, putN_len v n]
theorem bytes_putN (v : Int) : ∀ n, Bytes (putN n v)
 | 0 => fun i hi => by simp [putN] at hi
 | n + 1 => fun i hi => by
  cases i with
  | zero => simp only [putN, List.getElem_cons_zero]; omega
  | succ i => simp only [putN, List.getElem_cons_succ]; exact bytes_putN v n i (by simpa [putN] using hi)
def getN (l : List Int) : Int := l.foldl (fun v x => 256 * v + x) 0
theorem getN_snoc (l : List Int) (x : Int) : getN (l ++ [x]) = 256 * getN l + x := by simp [getN, List.foldl_append]
theorem getN_range {l : List Int} (h : Bytes l) : 0 ≤ getN l ∧ getN l < 256 ^ l.length := by
 have key : ∀ n (l : List Int), l.length = n → Bytes l → 0 ≤ getN l ∧ getN l < 256 ^ l.length := by
  intro n
  induction n with
  | zero =>
   intro l hl _
   obtain rfl := List.eq_nil_of_length_eq_zero hl
   simp [getN]
  | succ n ih =>
   intro l hl hb
   rcases List.eq_nil_or_concat l with rfl | ⟨l', x, rfl⟩
   ·simp at hl
   ·rw [List.concat_eq_append] at hl hb ⊢
    have h1 := ih l' (by simpa using hl) fun i hi => by
     have := hb i (by simp; omega)
     rwa [List.getElem_append_left hi] at this
    have h2 : 0 ≤ x ∧ x < 256 := by
     have := hb l'.length (by simp)
     simpa using this
    rw [getN_snoc, List.length_append]
    simp only [List.length_cons, List.length_nil, Nat.zero_add, Int.pow_succ]
    omega
 exact key _ l rfl h
theorem pow256_le {n : Nat} (h : n ≤ 7) : (256 : Int) ^ n ≤ 72057594037927936 := by
 have : (256 : Nat) ^ n ≤ 256 ^ 7 := Nat.pow_le_pow_right (by decide) h
 have e : (256 : Int) ^ n = ((256 ^ n : Nat) : Int) := by simp
 rw [e]; omega
end Go.Sx
namespace Go.Proofs.YtmbppohkadmjgaaGreat
open Go.Sx Go.RowKit
section
variable {a : Option Addr} {c : Nat} {ys : List Int} {w : World} {A : Nat → Prop} {P : World → Prop} {v : Int}
theorem ref01_Put_ct (hP : Held A w P) (hr : (Res.ints Ty_uint8 .u8 a c ys).ok w) (hn : ∀ b, (Res.ints Ty_uint8 .u8 a c ys).at = some b → ¬ A b) (n : Nat) (hn7 : n ≤ 7) (hl : ys.length ≤ 1000000) :
 Calls Tryz.prog N_ref01_Put #[(.slice a ys.length c), (.int .i64 n), (.int .i64 v)] w fun e w' => ∃ ra rc, e = .returned (.slice ra (ys ++ putN n v).length rc) ∧ St A (Res.ints Ty_uint8 .u8 a c ys).at.toList w w' [.ints Ty_uint8 .u8 ra rc (ys ++ putN n v)] P := by
 apply F_ref01_Put_ok
 unfold F_ref01_Put
 have H := St.startM hP hr hn
 obtain ⟨zs0, hzs0⟩ : ∃ zs0, zs0 = ys ++ putN n v := ⟨_, rfl⟩
 have hlen : zs0.length = ys.length + n := by rw [hzs0]; simp [putN_len]
 rw [← hzs0]
 refine kW_i64 (by omega) ?_
 refine ⟨fun b_a b_l b_c i => ((i + 1).toNat, fun w1 => ∃ (k : Nat) (zs : List Int), i = (k : Int) - 1 ∧ k ≤ n ∧ b_l = zs.length ∧ zs0 = zs ++ putN k v ∧ St A (Res.ints Ty_uint8 .u8 a c ys).at.toList w w1 [.ints Ty_uint8 .u8 b_a b_c zs] P), ⟨n, ys, by omega, Nat.le_refl _, rfl, hzs0, H⟩, ?_⟩
 clear H
 rintro _ b_a1 b_l1 b_c1 i w1 ⟨k, zs, rfl, hk, rfl, hI, H1⟩
 refine bsplit_dec (fun cc => ?_) (fun cc => ?_)
 ·obtain ⟨m, rfl⟩ : ∃ m, k = m + 1 := ⟨k - 1, by omega⟩
  have em : ((m + 1 : Nat) : Int) - 1 = m := by omega
  rw [em]
  refine kW_i64 (by omega) ?_
  refine kW_u64 (by omega) ?_
  refine ⟨by omega, ?_⟩
  have e8 : (min ((8 : Int) * m).toNat (IntKind.bits .i64)) = 8 * m := by
   show min _ 64 = _
   omega
  rw [e8]
  refine kFdiv ?_
  refine kWu8 ?_
  refine H1.alloc ?_; clear H1; intro b w2 H2
  have hzl := congrArg List.length hI
  simp only [List.length_append, putN_len, hlen] at hzl
  refine H2.appIB (i := 0) (j := 1) rfl [v / 2 ^ (8 * m) % 256] rfl sl_Ty_S_uint8 rfl (by simp; omega) (by simp; omega) ?_; intro x_a x_c w3 H3
  refine kW_i64 (by omega) ?_
  refine ⟨⟨m, _, rfl, by omega, rfl, by rw [hI]; simp [putN], H3.dropLast⟩, by dsimp only; omega⟩
 ·obtain rfl : k = 0 := by omega
  have : zs0 = zs := by rw [hI]; simp [putN]
  subst this
  exact ⟨_, _, rfl, H1⟩
end
section
variable {A0 : Nat → Prop} {M : List Nat} {w0 w : World} {R : List Res} {P : World → Prop} {i : Nat} {a : Option Addr} {c : Nat} {ys : List Int} {v : Int}
theorem dPut (H : St A0 M w0 w R P) (hi : R[i]? = some (.ints Ty_uint8 .u8 a c ys)) (n : Nat) (hn7 : n ≤ 7) (hl : ys.length ≤ 1000000) {K : Option Addr → Nat → Nat → World → Prop}
 (h : ∀ ra rc w', Fr (Res.ints Ty_uint8 .u8 a c ys).at.toList w w' → St A0 M w0 w' (R.set i (.ints Ty_uint8 .u8 ra rc (ys ++ putN n v))) P → K ra (ys ++ putN n v).length rc w') :
 Calls Tryz.prog N_ref01_Put #[(.slice a ys.length c), (.int .i64 n), (.int .i64 v)] w fun e w' => ∃ (ra : Option Addr) (rl rc : Nat), e = .returned (.slice ra rl rc) ∧ K ra rl rc w' := by
 obtain ⟨A, hA, hn', hr, hc⟩ := H.callM hi
 refine (ref01_Put_ct hA hr hn' n hn7 hl).mono ?_
 rintro _ w2 ⟨ra, rc, rfl, S⟩
 have := hc S
 rw [List.append_nil] at this
 exact ⟨_, _, _, rfl, h _ _ w2 S.fr (this.imp fun _ h => h.2)⟩
theorem ref01_Get_ct {bs : List Int} {w : World} (hs : SlR (IntC .u8) 1 w a bs) (hb : Bytes bs) (hl : bs.length ≤ 140737488355328) (j n : Nat) (hn : n ≤ 7) (hjn : j + n ≤ bs.length) :
 Calls Tryz.prog N_ref01_Get #[(.slice a bs.length c), (.int .i64 j), (.int .i64 n)] w fun e w' => e = .returned (.int .i64 (getN ((bs.drop j).take n))) ∧ Below w.heap.size w w' := by
 apply F_ref01_Get_ok
 unfold F_ref01_Get
 have H := St.nil w
 refine ⟨fun v i => ((n - i).toNat, fun w1 => ∃ k : Nat, i = k ∧ k ≤ n ∧ v = getN ((bs.drop j).take k) ∧ FreshR w w1 []), ⟨0, rfl, Nat.zero_le _, by simp [getN], H⟩, ?_⟩
 clear H
 rintro _ v i w1 ⟨k, rfl, hk, rfl, H1⟩
 refine bsplit_dec (fun cc => ?_) (fun cc => ?_)
 ·have hlt : j + k < bs.length := by omega
  have hr := getN_range (l := (bs.drop j).take k) fun i hi => by
   simp only [List.getElem_take, List.getElem_drop]
   exact hb _ _
  have hp := pow256_le (n := ((bs.drop j).take k).length) (by simp; omega)
  have hx := hb (j + k) hlt
  have es : (bs.drop j).take (k + 1) = (bs.drop j).take k ++ [bs[j + k]] := by
   rw [List.take_add_one, List.getElem?_drop, List.getElem?_eq_getElem hlt]; rfl
  have hr2 := getN_range (l := (bs.drop j).take (k + 1)) fun i hi => by
   simp only [List.getElem_take, List.getElem_drop]
   exact hb _ _
  have hp2 := pow256_le (n := ((bs.drop j).take (k + 1)).length) (by simp; omega)
  rw [es, getN_snoc] at hr2
  rw [← es] at hr2
  refine kW_i64 (by omega) ?_
  refine kW_i64 (by omega) ?_
  refine ixE (hs.below H1.below) (j + k) (by omega) hlt fun b x hxk hb1 => ?_
  obtain rfl : bs[j + k] = x := by rw [List.getElem?_eq_getElem hlt] at hxk; injection hxk
  refine ⟨_, hb1, ?_⟩
  refine kW_i64 (by omega) ?_
  refine kW_i64 (by omega) ?_
  refine kW_i64 (by omega) ?_
  exact ⟨⟨k + 1, by omega, by omega, by rw [es, getN_snoc], H1⟩, by dsimp only; omega⟩
 ·obtain rfl : k = n := by omega
  exact ⟨rfl, H1.below⟩
end
end Go.Proofs.YtmbppohkadmjgaaGreat
namespace Go.Sx
structure Stt where
 upto : Int
 miss : List Rg
deriving DecidableEq
def Stt.zero : Stt := ⟨0, []⟩
def whole (r : Rg) : Prop := r.f = 0 ∧ r.t = 0
instance (r : Rg) : Decidable (whole r) := inferInstanceAs (Decidable (_ ∧ _))
def isPart (r : Rg) : Prop := 0 ≤ r.f ∧ r.f < r.t ∧ r.t ≤ 65535
instance (r : Rg) : Decidable (isPart r) := inferInstanceAs (Decidable (_ ∧ _))
def szR (r : Rg) : Int := if whole r then 2 else 6
def ownR (b u : Int) (r : Rg) : Prop := (0 ≤ r.sn ∧ r.sn < 2 ^ b.toNat) ∧ (1 ≤ way b r.sn u ∧ way b r.sn u ≤ 2 ^ (b - 1).toNat) ∧ (whole r ∨ isPart r)
instance (b u : Int) (r : Rg) : Decidable (ownR b u r) := inferInstanceAs (Decidable (_ ∧ _))
def linkR (b u : Int) (q r : Rg) : Prop := way b r.sn u ≤ way b q.sn u ∧ (way b r.sn u = way b q.sn u → ¬ (whole q ∨ whole r ∨ r.f ≤ q.t))
instance (b u : Int) (q r : Rg) : Decidable (linkR b u q r) := inferInstanceAs (Decidable (_ ∧ _))
def linkO (b u : Int) : Option Rg → Rg → Prop
 | none, _ => True
 | some q, r => linkR b u q r
instance (b u : Int) (p : Option Rg) (r : Rg) : Decidable (linkO b u p r) := by cases p <;> unfold linkO <;> infer_instance
def chainB (b u : Int) : Option Rg → List Rg → Bool
 | _, [] => true
 | p, r :: l => decide (ownR b u r ∧ linkO b u p r) && chainB b u (some r) l
def okS (b : Int) (s : Stt) : Prop := bitsOk b ∧ (0 ≤ s.upto ∧ s.upto < 2 ^ b.toNat) ∧ s.miss.length ≤ 64 ∧ chainB b s.upto none s.miss = true
instance (b : Int) (s : Stt) : Decidable (okS b s) := inferInstanceAs (Decidable (_ ∧ _))
def prevR (l : List Rg) : Nat → Option Rg
 | 0 => none
 | k + 1 => l[k]?
theorem chain_step (b u : Int) {l : List Rg} {k : Nat} (h : k < l.length) : chainB b u (prevR l k) (l.drop k) = (decide (ownR b u l[k] ∧ linkO b u (prevR l k) l[k]) && chainB b u (prevR l (k + 1)) (l.drop (k + 1))) := by
 rw [List.drop_eq_getElem_cons h]
 simp only [chainB, prevR, List.getElem?_eq_getElem h]
def beforeOf (b u : Int) (l : List Rg) (k : Nat) : Int := match prevR l k with | none => 2 ^ (b - 1).toNat + 1 | some q => way b q.sn u
def be16 (x : Int) : List Int := [x / 256 % 256, x % 256]
def encB (r : Rg) : List Int := if whole r then be16 (16 * r.sn) else be16 (16 * r.sn + 1) ++ (be16 r.f ++ be16 r.t)
def bytesS (s : Stt) : List Int := be16 s.upto ++ ((s.miss.length : Int) % 256) :: s.miss.flatMap encB
def encS (b : Int) (s : Stt) : List Int × Int := if okS b s then (bytesS s, 0) else ([], 1)
def rdR : Nat → List Int → Option (List Rg)
 | 0, _ => some []
 | n + 1, x :: y :: l => if (256 * x + y) % 16 = 1 then (match l with
  | p :: q :: r :: s :: l => (rdR n l).map (⟨(256 * x + y) / 16, 256 * p + q, 256 * r + s⟩ :: ·)
  | _ => none) else (rdR n l).map (⟨(256 * x + y) / 16, 0, 0⟩ :: ·)
 | _, _ => none
def rdS : List Int → Option Stt
 | x :: y :: n :: l => (rdR n.toNat l).map (⟨256 * x + y, ·⟩)
 | _ => none
def decS (b : Int) (l : List Int) : Stt × Int :=
 if ¬ bitsOk b then (.zero, 3) else match rdS l with
  | none => (.zero, 5)
  | some s => if okS b s ∧ bytesS s = l then (s, 0) else (.zero, 4)
def unitOf (k : Nat) (p : Option Rg) (unit : Nat) (r : Rg) : Nat := match p with | none => unit | some q => if r.sn ≠ q.sn then k else unit
def fitS (sp u : Int) (L : List Rg) : Nat → Int → Nat → Option Rg → List Rg → Stt
 | _, _, _, _, [] => ⟨u, L⟩
 | k, used, unit, p, r :: l =>
  if used + szR r > sp then ⟨r.sn, L.take (unitOf k p unit r)⟩ else fitS sp u L (k + 1) (used + szR r) (unitOf k p unit r) (some r) l
def fitR (b : Int) (s : Stt) (sp : Int) : Stt × Int :=
 if ¬ okS b s then (.zero, 1) else if sp < 3 then (.zero, 15) else (fitS sp s.upto s.miss 0 3 0 none s.miss, 0)
theorem pow_bits1 {b : Int} (h : bitsOk b) : (2 : Int) ^ b.toNat = 2 * 2 ^ (b - 1).toNat ∧ (16 : Int) ≤ 2 ^ (b - 1).toNat ∧ (2 : Int) ^ (b - 1).toNat ≤ 256 := by
 obtain ⟨h1, h2⟩ := h
 rcases (show b = 5 ∨ b = 6 ∨ b = 7 ∨ b = 8 ∨ b = 9 by omega) with rfl | rfl | rfl | rfl | rfl <;> decide
end Go.Sx
namespace Go.Sx
theorem fit_step (sp u : Int) (L : List Rg) (k : Nat) (used : Int) (unit : Nat) (h : k < L.length) :
 fitS sp u L k used unit (prevR L k) (L.drop k) = if used + szR L[k] > sp then ⟨L[k].sn, L.take (unitOf k (prevR L k) unit L[k])⟩ else fitS sp u L (k + 1) (used + szR L[k]) (unitOf k (prevR L k) unit L[k]) (prevR L (k + 1)) (L.drop (k + 1)) := by
 rw [List.drop_eq_getElem_cons h]
 simp only [fitS, prevR, List.getElem?_eq_getElem h]
def StartU (L : List Rg) (i unit : Nat) : Prop := match prevR L i with | none => unit = i | some q => ∀ h : i < L.length, L[i].sn ≠ q.sn
theorem start_unit {L : List Rg} {i unit : Nat} (h : StartU L i unit) (hi : i < L.length) : unitOf i (prevR L i) unit L[i] = i := by
 unfold StartU at h
 split at h
 ·rename_i hp; rw [hp]; exact h
 ·rename_i q hp; rw [hp]; exact if_pos (h hi)
def InU (sp u : Int) (L : List Rg) (i : Nat) (hi : i < L.length) (n : Int) (unit : Nat) (X : Stt) (k : Nat) (more : Int) : Prop :=
 (n + more ≤ sp ∧ X = fitS sp u L k (n + more) (if k = i then unit else i) (prevR L k) (L.drop k)) ∨ (n + more > sp ∧ X = ⟨L[i].sn, L.take i⟩)
theorem szR_pos (r : Rg) : 2 ≤ szR r ∧ szR r ≤ 6 := by unfold szR; split <;> omega
theorem InU.step {sp u : Int} {L : List Rg} {i : Nat} {hi : i < L.length} {n : Int} {unit : Nat} {X : Stt} {k : Nat} {more : Int} (h : InU sp u L i hi n unit X k more) (hs : StartU L i unit) (hik : i ≤ k) (hk : k < L.length) (hsn : L[k].sn = L[i].sn)
 (hpr : ∀ j (h : j < L.length), i ≤ j → j < k → L[j].sn = L[i].sn) : InU sp u L i hi n unit X (k + 1) (more + szR L[k]) := by
 have hp := szR_pos L[k]
 rcases h with ⟨h1, h2⟩ | ⟨h1, h2⟩
 ·have hu : unitOf k (prevR L k) (if k = i then unit else i) L[k] = i := by
   by_cases hki : k = i
   ·subst hki; rw [if_pos rfl]; exact start_unit hs hi
   ·rw [if_neg hki]
    obtain ⟨j, rfl⟩ : ∃ j, k = j + 1 := ⟨k - 1, by omega⟩
    have hj : j < L.length := by omega
    simp only [unitOf, prevR, List.getElem?_eq_getElem hj]
    rw [if_neg]
    rw [hsn, hpr j hj (by omega) (by omega)]; simp
  rw [fit_step _ _ _ _ _ _ hk, hu] at h2
  by_cases hc : n + more + szR L[k] > sp
  ·rw [if_pos hc, hsn] at h2
   exact .inr ⟨by omega, h2⟩
  ·rw [if_neg hc] at h2
   refine .inl ⟨by omega, ?_⟩
   rw [if_neg (by omega), ← Int.add_assoc]; exact h2
 ·exact .inr ⟨by omega, h2⟩
end Go.Sx
namespace Go.Proofs.YtmbppohkadmjgaaGreat
open Go.Sx Go.RowKit

section
variable {r : Rg} {w : World}
theorem status_Whole_ct :
 Calls Tryz.prog N_status_Whole #[(.agg #[.int .i64 r.sn, .int .i64 r.f, .int .i64 r.t])] w fun e w' => e = .returned (.bool (decide (whole r))) ∧ Below w.heap.size w w' := by
 apply F_status_Whole_ok
 unfold F_status_Whole
 have H := St.nil w
 refine H.alloc ?_; clear H; intro b w1 H1
 refine H1.ld (i := 0) rfl rfl ?_
 refine bsplit_dec (fun c => ?_) (fun c => ?_)
 ·refine H1.ld (i := 0) rfl rfl ?_
  refine kLet_in ?_
  exact ⟨retD (by unfold whole; omega), H1.below⟩
 ·exact ⟨retF (by unfold whole; omega), H1.below⟩
theorem status_part_ct :
 Calls Tryz.prog N_status_part #[(.agg #[.int .i64 r.sn, .int .i64 r.f, .int .i64 r.t])] w fun e w' => e = .returned (.bool (decide (isPart r))) ∧ Below w.heap.size w w' := by
 apply F_status_part_ok
 unfold F_status_part
 have H := St.nil w
 refine H.alloc ?_; clear H; intro b w1 H1
 refine H1.ld (i := 0) rfl rfl ?_
 refine bsplit_dec (fun c1 => ?_) (fun c1 => ?_)
 ·refine H1.ld (i := 0) rfl rfl ?_
  refine H1.ld (i := 0) rfl rfl ?_
  refine bsplit_dec (fun c => ?_) (fun c => ?_)
  ·refine H1.ld (i := 0) rfl rfl ?_
   refine kLet_in ?_
   exact ⟨retD (by unfold isPart; omega), H1.below⟩
  ·exact ⟨retF (by unfold isPart; omega), H1.below⟩
 ·exact ⟨retF (by unfold isPart; omega), H1.below⟩
theorem status_size_ct :
 Calls Tryz.prog N_status_size #[(.agg #[.int .i64 r.sn, .int .i64 r.f, .int .i64 r.t])] w fun e w' => e = .returned (.int .i64 (szR r)) ∧ Below w.heap.size w w' := by
 apply F_status_size_ok
 unfold F_status_size
 have H := St.nil w
 refine H.alloc ?_; clear H; intro b w1 H1
 refine ⟨_, _, _, H1.cells (i := 0) rfl, ?_⟩
 refine status_Whole_ct.mono ?_
 rintro _ w2 ⟨rfl, hb2⟩; have H2 := H1.pass hb2; clear H1
 refine ⟨_, rfl, ?_⟩
 refine bsplit_dec (fun c => ?_) (fun c => ?_)
 ·exact ⟨by rw [szR, if_pos c], H2.below⟩
 ·exact ⟨by rw [szR, if_neg c], H2.below⟩
end
section
variable {bits u : Int} {l_a : Option Addr} {l : List Rg} {l_c : Nat} {w : World}
theorem status_Valid_ct (hs : SlR (CE encR) 3 w l_a l) (hl : l.length ≤ 140737488355328) :
 Calls Tryz.prog N_status_Valid #[(.int .i64 bits), (.agg #[.int .i64 u, .slice l_a l.length l_c])] w fun e w' => e = .returned (.bool (decide (okS bits ⟨u, l⟩))) ∧ Below w.heap.size w w' := by
 apply F_status_Valid_ok
 unfold F_status_Valid
 have H := St.nil w
 refine H.alloc ?_; clear H; intro b w1 H1
 have no : ∀ {w' : World} {R : List Res} {P : World → Prop}, ¬ okS bits ⟨u, l⟩ → St (fun _ => False) [] w w' R P → Ending.returned (.bool false) = .returned (.bool (decide (okS bits ⟨u, l⟩))) ∧ Below w.heap.size w w' := fun h H' => ⟨retF h, H'.below⟩
 refine ⟨fun w4 => bitsOk bits ∧ (0 ≤ u ∧ u < 2 ^ bits.toNat) ∧ l.length ≤ 64 ∧ FreshR w w4 [.blk b Ty_api_Status [(.int .i64 u), (.slice l_a l.length l_c)]], ?_, ?_⟩
 ·rintro _  w4 ⟨hb, hu, hll, H4⟩
  have hp := pow_bits1 hb
  have hb5 := hb.1; have hb9 := hb.2
  refine kW_i64 (by omega) ?_
  refine ⟨by omega, ?_⟩
  refine kShl1 (by omega) ?_
  refine kW_i64 (by omega) ?_
  refine H4.ldS (i := 0) rfl rfl ?_
  refine ⟨fun before x6 => ((l.length - x6).toNat, fun w5 => ∃ k : Nat, k ≤ l.length ∧ x6 = k ∧ before = beforeOf bits u l k ∧ chainB bits u none l = chainB bits u (prevR l k) (l.drop k) ∧ FreshR w w5 [.blk b Ty_api_Status [(.int .i64 u), (.slice l_a l.length l_c)]]), ⟨0, by omega, rfl, rfl, rfl, H4⟩, ?_⟩
  clear H4
  rintro _ before x6 w5 ⟨k, hk, rfl, rfl, hI, H5⟩
  refine bsplit_dec (fun c16 => ?_) (fun c16 => ?_)
  ·have hlt : k < l.length := by omega
   rw [chain_step _ _ hlt] at hI
   have bad : ¬ (ownR bits u l[k] ∧ linkO bits u (prevR l k) l[k]) → ¬ okS bits ⟨u, l⟩ := fun h h' => by
    have := h'.2.2.2
    simp only at this
    rw [hI, decide_eq_false h, Bool.false_and] at this
    cases this
   refine ixE (hs.belowE H5.below) k rfl hlt fun b1 r hr hb1 => ?_
   obtain rfl : l[k] = r := by rw [List.getElem?_eq_getElem hlt] at hr; injection hr
   refine ⟨_, _, _, hb1, ?_⟩
   refine H5.alloc ?_; clear H5; intro b2 w6 H6
   refine H6.store (i := 1) rfl (by rfl) (by rfl) ?_; clear H6; intro w7 H7
   refine H7.ld (i := 1) rfl rfl ?_
   refine H7.ld (i := 0) rfl rfl ?_
   refine serial_Distance_ct.mono ?_
   rintro _ w8 ⟨rfl, hb8⟩; have H8 := H7.pass hb8; clear H7
   refine ⟨_, rfl, ?_⟩
   rw [if_pos (by omega)]
   obtain ⟨d, hd⟩ : ∃ d, d = way bits l[k].sn u := ⟨_, rfl⟩
   have hown : ownR bits u l[k] ↔ (0 ≤ l[k].sn ∧ l[k].sn < 2 ^ bits.toNat) ∧ (1 ≤ d ∧ d ≤ 2 ^ (bits - 1).toNat) ∧ (whole l[k] ∨ isPart l[k]) := by rw [hd]; exact Iff.rfl
   have hbef : ownR bits u l[k] → linkO bits u (prevR l k) l[k] → d ≤ beforeOf bits u l k := fun h1 h2 => by
    unfold beforeOf
    unfold linkO at h2
    split
    ·have := (hown.1 h1).2.1.2; omega
    ·rename_i q hq
     simp only [hq] at h2
     rw [hd]; exact h2.1
   rw [← hd]
   refine ⟨fun x14 w12 => (x14 = true → ¬ (ownR bits u l[k] ∧ linkO bits u (prevR l k) l[k])) ∧ (x14 = false → ownR bits u l[k] ∧ d ≤ beforeOf bits u l k) ∧ FreshR w w12 [.blk b Ty_api_Status [(.int .i64 u), (.slice l_a l.length l_c)], .blk b2 Ty_api_Range (encR l[k])], ?_, ?_⟩
   ·rintro _ x14 w12 ⟨hj1, hj2, H12⟩
    refine bsplit_intro (fun c15 => ?_) (fun c15 => ?_)
    ·exact no (bad (hj1 c15)) H12
    obtain ⟨ho, hle⟩ := hj2 c15
    have good : linkO bits u (prevR l k) l[k] → chainB bits u none l = chainB bits u (prevR l (k + 1)) (l.drop (k + 1)) := fun h => by rw [hI, decide_eq_true ⟨ho, h⟩, Bool.true_and]
    have hbn : d = beforeOf bits u l (k + 1) := by simp [beforeOf, prevR, List.getElem?_eq_getElem hlt, hd]
    refine ⟨fun x15 w13 => x15 = decide (d = beforeOf bits u l k ∧ 0 < k) ∧ FreshR w w13 [.blk b Ty_api_Status [(.int .i64 u), (.slice l_a l.length l_c)], .blk b2 Ty_api_Range (encR l[k])], ?_, ?_⟩
    ·rintro _ x15 w13 ⟨hx15, H13⟩
     have next : ∀ {w' : World} {R : List Res}, linkO bits u (prevR l k) l[k] → FreshR w w' (.blk b Ty_api_Status [(.int .i64 u), (.slice l_a l.length l_c)] :: R) → (∃ k' : Nat, k' ≤ l.length ∧ (k : Int) + 1 = k' ∧ d = beforeOf bits u l k' ∧ chainB bits u none l = chainB bits u (prevR l k') (l.drop k') ∧ FreshR w w' [.blk b Ty_api_Status [(.int .i64 u), (.slice l_a l.length l_c)]]) ∧ (l.length - ((k : Int) + 1)).toNat < (l.length - (k : Int)).toNat := fun h H' =>
      ⟨⟨k + 1, by omega, by omega, hbn, good h, H'.sub (fun i => i) (by rintro (_ | _) r h <;> first | exact h | cases h) (fun _ _ _ _ h => h)⟩, by omega⟩
     refine bsplit_intro (fun c14 => ?_) (fun c14 => ?_)
     ·rw [c14] at hx15
      obtain ⟨he, hk0⟩ := of_decide_eq_true hx15.symm
      obtain ⟨j, rfl⟩ : ∃ j, k = j + 1 := ⟨k - 1, by omega⟩
      have hjl : j < l.length := by omega
      have hprev : prevR l (j + 1) = some l[j] := by simp [prevR, List.getElem?_eq_getElem hjl]
      have hdq : d = way bits l[j].sn u := by rw [he]; simp [beforeOf, hprev]
      have hlk : linkO bits u (prevR l (j + 1)) l[j + 1] ↔ ¬ (whole l[j] ∨ whole l[j + 1] ∨ l[j + 1].f ≤ l[j].t) := by
       rw [hprev]
       show linkR _ _ _ _ ↔ _
       unfold linkR
       rw [← hd, ← hdq]
       exact ⟨fun h => h.2 rfl, fun h => ⟨Int.le_refl _, fun _ => h⟩⟩
      refine H13.ldS (i := 0) rfl rfl ?_
      refine kW_i64 (by omega) ?_
      refine ixE (hs.belowE H13.below) j (by omega) hjl fun b3 q hq hb3 => ?_
      obtain rfl : l[j] = q := by rw [List.getElem?_eq_getElem hjl] at hq; injection hq
      refine ⟨_, _, _, hb3, ?_⟩
      refine H13.alloc ?_; clear H13; intro b4 w14 H14
      refine H14.store (i := 2) rfl (by rfl) (by rfl) ?_; clear H14; intro w15 H15
      refine ⟨_, _, _, H15.cells (i := 2) rfl, ?_⟩
      refine status_Whole_ct.mono ?_
      rintro _ w16 ⟨rfl, hb16⟩; have H16 := H15.pass hb16; clear H15
      refine ⟨_, rfl, ?_⟩
      refine bsplit_dec (fun c13 => ?_) (fun c13 => ?_)
      ·exact no (bad fun h => hlk.1 h.2 (.inl c13)) H16
      ·refine ⟨_, _, _, H16.cells (i := 1) rfl, ?_⟩
       refine status_Whole_ct.mono ?_
       rintro _ w17 ⟨rfl, hb17⟩; have H17 := H16.pass hb17; clear H16
       refine ⟨_, rfl, ?_⟩
       refine bsplit_dec (fun c12 => ?_) (fun c12 => ?_)
       ·exact no (bad fun h => hlk.1 h.2 (.inr (.inl c12))) H17
       ·refine H17.ld (i := 1) rfl rfl ?_
        refine H17.ld (i := 2) rfl rfl ?_
        refine bsplit_dec (fun c11 => ?_) (fun c11 => ?_)
        ·exact no (bad fun h => hlk.1 h.2 (.inr (.inr c11))) H17
        ·refine kW_i64 (by omega) ?_
         exact next (hlk.2 fun h => by rcases h with h | h | h <;> contradiction) H17
     ·have hlk : linkO bits u (prevR l k) l[k] := by
       rw [c14] at hx15
       have hne := of_decide_eq_false hx15.symm
       unfold linkO
       split
       ·trivial
       ·rename_i q hq
        have hk0 : 0 < k := by
         cases k with
         | zero => cases hq
         | succ k => omega
        have hq2 : beforeOf bits u l k = way bits q.sn u := by simp [beforeOf, hq]
        rw [hq2] at hle hne
        exact ⟨by omega, fun h => by omega⟩
      refine kW_i64 (by omega) ?_
      exact next hlk H13
    ·refine bsplit_dec (fun c10 => ?_) (fun c10 => ?_)
     ·exact ⟨by rw [decide_eq_decide]; omega, H12⟩
     ·exact ⟨by rw [decide_eq_false]; intro h; exact c10 h.1, H12⟩
   ·refine H8.drew ?_; clear H8; intro w9 H9
    refine ⟨(· < w9.heap.size), ?_⟩
    have bad2 : ∀ {w' : World} {P : Prop}, (ownR bits u l[k] → linkO bits u (prevR l k) l[k] → False) → FreshR w w' [.blk b Ty_api_Status [(.int .i64 u), (.slice l_a l.length l_c)], .blk b2 Ty_api_Range (encR l[k])] →
     (true = true → ¬ (ownR bits u l[k] ∧ linkO bits u (prevR l k) l[k])) ∧ (true = false → ownR bits u l[k] ∧ d ≤ beforeOf bits u l k) ∧ FreshR w w' [.blk b Ty_api_Status [(.int .i64 u), (.slice l_a l.length l_c)], .blk b2 Ty_api_Range (encR l[k])] :=
     fun h H' => ⟨fun _ h' => h h'.1 h'.2, fun h => by (cases h), H'⟩
    refine H9.ld (i := 1) rfl rfl ?_
    refine bsplit_dec (fun c9 => ?_) (fun c9 => ?_)
    ·exact bad2 (P := True) (fun h _ => by have := (hown.1 h).1; omega) H9
    ·refine H9.ld (i := 1) rfl rfl ?_
     refine ⟨by omega, ?_⟩
     refine kShl1 (by omega) ?_
     refine bsplit_dec (fun c8 => ?_) (fun c8 => ?_)
     ·exact bad2 (P := True) (fun h _ => by have := (hown.1 h).1; omega) H9
     ·refine bsplit_dec (fun c7 => ?_) (fun c7 => ?_)
      ·exact bad2 (P := True) (fun h _ => by have := (hown.1 h).2; omega) H9
      ·refine bsplit_dec (fun c6 => ?_) (fun c6 => ?_)
       ·exact bad2 (P := True) (fun h h2 => by have := hbef h h2; omega) H9
       ·refine kW_i64 (by omega) ?_
        refine ⟨by omega, ?_⟩
        refine kShl1 (by omega) ?_
        refine bsplit_dec (fun c5 => ?_) (fun c5 => ?_)
        ·exact bad2 (P := True) (fun h _ => by have := (hown.1 h).2; omega) H9
        ·refine ⟨_, _, _, H9.cells (i := 1) rfl, ?_⟩
         refine status_Whole_ct.mono ?_
         rintro _ w10 ⟨rfl, hb10⟩; have H10 := H9.pass hb10
         refine ⟨_, rfl, ?_⟩
         refine ⟨hb10.keeps, ?_⟩
         refine bsplit_nd (fun c4 => ?_) (fun c4 => ?_)
         ·refine ⟨H9.lt (i := 1) rfl rfl, ?_⟩
          refine ⟨_, _, _, H9.cells (i := 1) rfl, ?_⟩
          refine status_part_ct.mono ?_
          rintro _ w11 ⟨rfl, hb11⟩; have H11 := H10.pass hb11
          refine ⟨_, rfl, ?_⟩
          replace hb11 := below_step hb10 (Nat.le_refl _) hb11
          refine ⟨hb11.keeps, ?_⟩
          refine ⟨fun h h' => ?_, fun h => ⟨hown.2 ⟨by omega, by omega, .inr ?_⟩, by omega⟩, H11⟩
          ·rcases (hown.1 h'.1).2.2 with h2 | h2
           ·exact c4 h2
           ·simp [h2] at h
          ·simpa using h
         ·exact ⟨fun h => (by cases h), fun _ => ⟨hown.2 ⟨by omega, by omega, .inl c4⟩, by omega⟩, H10⟩
  ·obtain rfl : k = l.length := by omega
   rw [List.drop_length] at hI
   exact ⟨retT ⟨hb, hu, hll, hI⟩, H5.below⟩
 ·refine H1.drew ?_; clear H1; intro w2 H2
  refine ⟨(· < w2.heap.size), ?_⟩
  refine counter_Bits_ct.mono ?_
  rintro _ w3 ⟨rfl, hb3⟩; have H3 := H2.pass hb3
  refine ⟨_, rfl, ?_⟩
  refine ⟨hb3.keeps, ?_⟩
  refine bsplit_nd (fun c3 => ?_) (fun c3 => ?_)
  ·exact no (fun h => c3 h.1) H3
  ·have hb5 := c3.1; have hb9 := c3.2
   refine ⟨H2.lt (i := 0) rfl rfl, ?_⟩
   refine H2.ld (i := 0) rfl rfl ?_
   refine bsplit_dec (fun c2 => ?_) (fun c2 => ?_)
   ·exact no (fun h => by have := h.2.1.1; simp only at this; omega) H3
   ·refine ⟨H2.lt (i := 0) rfl rfl, ?_⟩
    refine H2.ld (i := 0) rfl rfl ?_
    refine ⟨by omega, ?_⟩
    refine kShl1 (by omega) ?_
    refine bsplit_dec (fun c1 => ?_) (fun c1 => ?_)
    ·exact no (fun h => by have := h.2.1.2; simp only at this; omega) H3
    ·refine ⟨H2.lt (i := 0) rfl rfl, ?_⟩
     refine H2.ldS (i := 0) rfl rfl ?_
     refine bsplit_dec (fun c => ?_) (fun c => ?_)
     ·exact no (fun h => by have := h.2.2.1; simp only at this; omega) H3
     ·exact ⟨c3, by omega, by omega, H3⟩
end
end Go.Proofs.YtmbppohkadmjgaaGreat
namespace Go.Proofs.YtmbppohkadmjgaaGreat
open Go.Sx Go.RowKit
section
variable {bits u : Int} {l_a : Option Addr} {l : List Rg} {l_c : Nat} {w : World}
end
end Go.Proofs.YtmbppohkadmjgaaGreat
namespace Go.Sx
theorem bOr_u8 {x y : Int} (k : Nat) (m : Int) (hx : x = 2 ^ k * m) (hm : 0 ≤ m) (hy : 0 ≤ y ∧ y < 2 ^ k) (hr : x + y ≤ 255) : bOr .u8 x y = x + y := by
 obtain ⟨m, rfl⟩ := natOf hm
 obtain ⟨y, rfl⟩ := natOf hy.1
 rw [pow_cast] at hx hy
 have hx2 : x = ((2 ^ k * m : Nat) : Int) := by rw [hx]; simp
 have hy2 : y < 2 ^ k := by omega
 subst hx2
 rw [bOr_nat .u8 _ _ (by show _ < 2 ^ 8; omega) (by show _ < 2 ^ 8; omega), ← Nat.two_pow_add_eq_or_of_lt hy2, IntWalk.u8_in _ (by omega)]
 omega
theorem encB_len (r : Rg) : (encB r).length ≤ 6 := by unfold encB; split <;> simp [be16]
theorem flat_encB_len (L : List Rg) : (L.flatMap encB).length ≤ 6 * L.length := by
 induction L with
 | nil => simp
 | cons r L ih => have := encB_len r; simp only [List.flatMap_cons, List.length_append, List.length_cons]; omega
theorem bytes_be16 (v : Int) : Bytes (be16 v) := fun i hi => by
 rcases i with _ | _ | i
 ·simp only [be16, List.getElem_cons_zero]; omega
 ·simp only [be16, List.getElem_cons_succ, List.getElem_cons_zero]; omega
 ·simp [be16] at hi; omega
theorem bytes_append {l m : List Int} (h : Bytes l) (k : Bytes m) : Bytes (l ++ m) := fun i hi => by
 by_cases hlt : i < l.length
 ·rw [List.getElem_append_left hlt]; exact h i hlt
 ·rw [List.getElem_append_right (by omega)]; exact k _ (by simp at hi; omega)
theorem bytes_encB (r : Rg) : Bytes (encB r) := by
 unfold encB
 split
 ·exact bytes_be16 _
 ·exact bytes_append (bytes_be16 _) (bytes_append (bytes_be16 _) (bytes_be16 _))
theorem bytes_flatB (L : List Rg) : Bytes (L.flatMap encB) := by
 induction L with
 | nil => exact fun i hi => by simp at hi
 | cons r L ih => rw [List.flatMap_cons]; exact bytes_append (bytes_encB r) ih
theorem bytes_S (s : Stt) : Bytes (bytesS s) := by
 refine bytes_append (bytes_be16 _) fun i hi => ?_
 cases i with
 | zero => simp only [List.getElem_cons_zero]; omega
 | succ i => simp only [List.getElem_cons_succ]; exact bytes_flatB _ i (by simpa using hi)
theorem flat_take (l : List Rg) (k : Nat) (h : k < l.length) : (l.take (k + 1)).flatMap encB = (l.take k).flatMap encB ++ encB l[k] := by
 rw [List.take_add_one, List.getElem?_eq_getElem h, List.flatMap_append]; simp
theorem chain_own {b u : Int} : ∀ {l : List Rg} {p : Option Rg}, chainB b u p l = true → ∀ r ∈ l, ownR b u r
 | [], _, _, r, hr => by simp at hr
 | x :: l, p, h, r, hr => by
  simp only [chainB, Bool.and_eq_true, decide_eq_true_iff] at h
  rcases List.mem_cons.1 hr with rfl | hr
  ·exact h.1.1
  ·exact chain_own h.2 r hr
end Go.Sx
namespace Go.Proofs.YtmbppohkadmjgaaGreat
open Go.Sx Go.RowKit
theorem RetB.of {w w' : World} {R : List Res} {P : World → Prop} (H : St (fun _ => False) [] w w' R P) {i : Nat} {a : Option Addr} {c : Nat} {bs : List Int} (hi : R[i]? = some (.ints Ty_uint8 .u8 a c bs)) (er : Int) :
 RetB w bs er (.returned (.tuple #[.slice a bs.length c, .int .i64 er])) w' := ⟨a, c, H.capI hi, rfl, H.freshI hi⟩
section
variable {bits u : Int} {l_a : Option Addr} {l : List Rg} {l_c : Nat} {w : World}
theorem status_Encode_ct (hs : SlR (CE encR) 3 w l_a l) (hl : l.length ≤ 140737488355328) :
 Calls Tryz.prog N_status_Encode #[(.int .i64 bits), (.agg #[.int .i64 u, .slice l_a l.length l_c])] w (RetB w (encS bits ⟨u, l⟩).1 (encS bits ⟨u, l⟩).2) := by
 apply F_status_Encode_ok
 unfold F_status_Encode
 have H := St.nil w
 refine H.alloc ?_; clear H; intro b w1 H1
 refine ⟨_, _, _, _, H1.cells (i := 0) rfl, ?_⟩
 refine (status_Valid_ct (hs.belowE H1.below) hl).mono ?_
 rintro _ w2 ⟨rfl, hb2⟩; have H2 := H1.pass hb2; clear H1
 refine ⟨_, rfl, ?_⟩
 refine bsplit_nd (fun c2 => ?_) (fun c2 => ?_)
 ·have e0 : encS bits ⟨u, l⟩ = ([], 1) := if_neg c2
  rw [e0]; exact .nil H2.below _
 ·have e0 : encS bits ⟨u, l⟩ = (bytesS ⟨u, l⟩, 0) := if_pos c2
  rw [e0]
  have hll : l.length ≤ 64 := c2.2.2.1
  have hu := c2.2.1
  have hp := pow_bits c2.1
  have hown := chain_own c2.2.2.2
  simp only at hu hown
  refine H2.ld (i := 0) rfl rfl ?_
  refine kFdiv ?_
  refine kWu8 ?_
  refine H2.ld (i := 0) rfl rfl ?_
  refine kWu8 ?_
  refine H2.ldS (i := 0) rfl rfl ?_
  refine kWu8 ?_
  refine H2.alloc ?_; clear H2; intro b1 w3 H3
  have H3 := H3.litI (i := 1) (k := .u8) (be16 u ++ [(l.length : Int) % 256]) rfl (by simp [be16, maxLen])
  refine H3.ldS (i := 0) rfl rfl ?_
  refine ⟨fun b_a b_l b_c x6 => ((l.length - x6).toNat, fun w4 => ∃ (k : Nat) (ys : List Int), x6 = k ∧ k ≤ l.length ∧ b_l = ys.length ∧ ys = be16 u ++ (l.length : Int) % 256 :: (l.take k).flatMap encB ∧ FreshR w w4 [.blk b Ty_api_Status [(.int .i64 u), (.slice l_a l.length l_c)], .ints Ty_uint8 .u8 b_a b_c ys]), ⟨0, be16 u ++ [(l.length : Int) % 256], rfl, by omega, rfl, by simp, H3⟩, ?_⟩
  clear H3
  rintro _ b_a b_l b_c x6 w4 ⟨k, ys, rfl, hk, rfl, hys, H4⟩
  have hyl : ys.length ≤ 3 + 6 * k := by
   have := flat_encB_len (l.take k)
   rw [hys]; simp only [List.length_append, List.length_cons, be16, List.length_nil, List.length_take] at this ⊢; omega
  refine bsplit_dec (fun c1 => ?_) (fun c1 => ?_)
  ·have hlt : k < l.length := by omega
   have hsn := (hown l[k] (List.getElem_mem hlt)).1
   refine ixE (hs.belowE H4.below) k rfl hlt fun b2 r hr hb2 => ?_
   obtain rfl : l[k] = r := by rw [List.getElem?_eq_getElem hlt] at hr; injection hr
   have hnext := flat_take l k hlt
   obtain ⟨r, hr⟩ : ∃ r, r = l[k] := ⟨_, rfl⟩
   rw [← hr] at hsn hb2 hnext
   refine ⟨_, _, _, hb2, ?_⟩
   refine H4.alloc ?_; clear H4; intro b3 w5 H5
   refine H5.store (i := 2) rfl (by rfl) (by rfl) ?_; clear H5; intro w6 H6
   refine H6.ld (i := 2) rfl rfl ?_
   refine kFdiv ?_
   refine kWu8 ?_
   refine H6.ld (i := 2) rfl rfl ?_
   refine kW_i64 (by omega) ?_
   refine kWu8 ?_
   refine H6.alloc ?_; clear H6; intro b4 w7 H7
   refine H7.appIB (i := 1) (j := 3) rfl [r.sn / 2 ^ 4 % 256, r.sn * 2 ^ 4 % 256] rfl sl_Ty_S_uint8 rfl (by simp; omega) (by simp; omega) ?_; intro x_a2 x_c2 w8 H8
   refine ⟨_, _, _, H8.cells (i := 2) rfl, ?_⟩
   refine status_Whole_ct.mono ?_
   rintro _ w9 ⟨rfl, hb9⟩; have H9 := H8.pass hb9; clear H8
   refine ⟨_, rfl, ?_⟩
   have ezl : (ys ++ [r.sn / 2 ^ 4 % 256, r.sn * 2 ^ 4 % 256]).length = ys.length + 2 := by simp
   refine bsplit_nd (fun c => ?_) (fun c => ?_)
   ·have hlen : 0 < (ys ++ [r.sn / 2 ^ 4 % 256, r.sn * 2 ^ 4 % 256]).length := by omega
    refine kW_i64 (by omega) ?_
    obtain ⟨g, rfl, -, -⟩ := H9.rowSome (i := 1) rfl hlen
    have ej : ((ys ++ [r.sn / 2 ^ 4 % 256, r.sn * 2 ^ 4 % 256]).length : Int) - 1 = ((ys.length + 1 : Nat) : Int) := by omega
    rw [ej]
    refine kIx_at ⟨by omega, by omega⟩ ?_
    rw [add_mk, Nat.zero_add, Nat.mul_one, Int.toNat_natCast]
    have hlast : (ys ++ [r.sn / 2 ^ 4 % 256, r.sn * 2 ^ 4 % 256])[ys.length + 1]? = some (r.sn * 2 ^ 4 % 256) := by
     rw [List.getElem?_append_right (by omega)]; simp
    refine ⟨r.sn * 2 ^ 4 % 256, H9.cellRow (i := 1) rfl (by rw [List.getElem?_map, hlast]; rfl), ?_⟩
    refine kLet_intro fun x15 hx15 => ?_
    rw [bOr_u8 4 (r.sn % 16) (by omega) (by omega) (by decide) (by omega)] at hx15
    refine kIx_at ⟨by omega, by omega⟩ ?_
    rw [add_mk, Nat.zero_add]
    refine H9.setI (i := 1) rfl (by omega) fun w10 _ H10 => ?_
    have ese : (ys ++ [r.sn / 2 ^ 4 % 256, r.sn * 2 ^ 4 % 256]).set (ys.length + 1) x15 = ys ++ [r.sn / 2 ^ 4 % 256, x15] := by
     rw [List.set_append_right _ _ (by omega)]; simp
    rw [ese] at H10
    refine H10.ld (i := 2) rfl rfl ?_
    refine kFdiv ?_
    refine kWu8 ?_
    refine H10.ld (i := 2) rfl rfl ?_
    refine kWu8 ?_
    refine H10.ld (i := 2) rfl rfl ?_
    refine kFdiv ?_
    refine kWu8 ?_
    refine H10.ld (i := 2) rfl rfl ?_
    refine kWu8 ?_
    refine H10.alloc ?_; clear H10; intro b7 w11 H11
    have ez2 : (ys ++ [r.sn / 2 ^ 4 % 256, r.sn * 2 ^ 4 % 256]).length = (ys ++ [r.sn / 2 ^ 4 % 256, x15]).length := by simp
    rw [ez2]
    refine H11.appIB (i := 1) (j := 4) rfl [r.f / 2 ^ 8 % 256, r.f % 256, r.t / 2 ^ 8 % 256, r.t % 256] rfl sl_Ty_S_uint8 rfl (by simp; omega) (by simp; omega) ?_; intro x_a3 x_c3 w12 H12
    refine kW_i64 (by omega) ?_
    refine ⟨⟨k + 1, _, by omega, by omega, rfl, ?_, H12.sub (fun i => i) (by rintro (_ | _ | _) r h <;> first | exact h | cases h) (fun _ _ _ _ h => h)⟩, by dsimp only; omega⟩
    rw [hnext, encB, if_neg c, hys, hx15]
    simp only [be16, List.append_assoc, List.cons_append, List.nil_append]
    have q1 : (16 * r.sn + 1) / 256 % 256 = r.sn / 2 ^ 4 % 256 := by omega
    have q2 : (16 * r.sn + 1) % 256 = r.sn * 2 ^ 4 % 256 + 1 := by omega
    rw [q1, q2]
    rfl
   ·refine kW_i64 (by omega) ?_
    refine ⟨⟨k + 1, _, by omega, by omega, rfl, ?_, H9.sub (fun i => i) (by rintro (_ | _ | _) r h <;> first | exact h | cases h) (fun _ _ _ _ h => h)⟩, by dsimp only; omega⟩
    rw [hnext, encB, if_pos c, hys]
    simp only [be16, List.append_assoc, List.cons_append, List.nil_append]
    have q1 : 16 * r.sn / 256 % 256 = r.sn / 2 ^ 4 % 256 := by omega
    have q2 : 16 * r.sn % 256 = r.sn * 2 ^ 4 % 256 := by omega
    rw [q1, q2]
  ·obtain rfl : k = l.length := by omega
   rw [List.take_length] at hys
   obtain rfl : ys = bytesS ⟨u, l⟩ := hys
   exact .of H4 (i := 1) rfl 0
end
end Go.Proofs.YtmbppohkadmjgaaGreat
namespace Go.Sx
theorem chain_iff {b u : Int} : ∀ {L : List Rg} {p : Option Rg}, chainB b u p L = true ↔ (∀ k (h : k < L.length), ownR b u L[k]) ∧ (∀ h : 0 < L.length, linkO b u p L[0]) ∧ ∀ k (h : k + 1 < L.length), linkR b u L[k] L[k + 1]
 | [], p => by simp [chainB]
 | x :: L, p => by
  simp only [chainB, Bool.and_eq_true, decide_eq_true_iff, chain_iff (L := L)]
  constructor
  ·rintro ⟨⟨h1, h2⟩, h3, h4, h5⟩
   refine ⟨fun k h => ?_, fun _ => h2, fun k h => ?_⟩
   ·cases k with
    | zero => exact h1
    | succ k => exact h3 k (by simpa using h)
   ·cases k with
    | zero => exact h4 (by simpa using h)
    | succ k => exact h5 k (by simpa using h)
  ·rintro ⟨h1, h2, h3⟩
   exact ⟨⟨h1 0 (by simp), h2 (by simp)⟩, fun k h => h1 (k + 1) (by simpa using h), fun h => h3 0 (by simpa using h), fun k h => h3 (k + 1) (by simpa using h)⟩
theorem rd_enc {b u : Int} : ∀ (L : List Rg), bitsOk b → (∀ r ∈ L, ownR b u r) → rdR L.length (L.flatMap encB) = some L
 | [], _, _ => rfl
 | r :: L, hb, h => by
  have ih := rd_enc L hb fun x hx => h x (by simp [hx])
  obtain ⟨⟨h1, h2⟩, _, h3⟩ := h r (by simp)
  have hp := pow_bits hb
  rw [List.flatMap_cons, List.length_cons]
  unfold encB
  split
  ·rename_i hw
   have e : 256 * (16 * r.sn / 256 % 256) + 16 * r.sn % 256 = 16 * r.sn := by omega
   show rdR (L.length + 1) (_ :: _ :: L.flatMap encB) = _
   unfold rdR
   rw [e, if_neg (by omega), ih]
   have : (⟨16 * r.sn / 16, 0, 0⟩ : Rg) = r := by
    cases r; simp only [whole] at hw; simp only [Rg.mk.injEq]; omega
   rw [this]; rfl
  ·rename_i hw
   obtain ⟨p1, p2, p3⟩ := h3.resolve_left hw
   have e : 256 * ((16 * r.sn + 1) / 256 % 256) + (16 * r.sn + 1) % 256 = 16 * r.sn + 1 := by omega
   show rdR (L.length + 1) (_ :: _ :: (r.f / 256 % 256) :: (r.f % 256) :: (r.t / 256 % 256) :: (r.t % 256) :: L.flatMap encB) = _
   unfold rdR
   rw [e, if_pos (by omega)]
   simp only
   rw [ih]
   have : (⟨(16 * r.sn + 1) / 16, 256 * (r.f / 256 % 256) + r.f % 256, 256 * (r.t / 256 % 256) + r.t % 256⟩ : Rg) = r := by
    cases r; simp only at p1 p2 p3 h1 h2 ⊢; simp only [Rg.mk.injEq]; omega
   rw [this]; rfl
theorem decS_encS {b : Int} {s : Stt} (h : okS b s) : decS b (bytesS s) = (s, 0) := by
 obtain ⟨u, L⟩ := s
 have h0 := h
 obtain ⟨h1, h2, h3, h4⟩ := h
 simp only at h2 h3 h4
 have hp := pow_bits h1
 have hr : rdS (bytesS ⟨u, L⟩) = some ⟨u, L⟩ := by
  show (rdR ((L.length : Int) % 256).toNat (L.flatMap encB)).map (fun x => (⟨256 * (u / 256 % 256) + u % 256, x⟩ : Stt)) = _
  have e1 : ((L.length : Int) % 256).toNat = L.length := by omega
  rw [e1, rd_enc L h1 (chain_own h4)]
  have e2 : 256 * (u / 256 % 256) + u % 256 = u := by omega
  simp [e2]
 unfold decS
 rw [if_neg (not_not_intro h1), hr]
 simp only
 rw [if_pos ⟨h0, trivial⟩]
def sumS : List Rg → Int
 | [] => 0
 | r :: L => szR r + sumS L
theorem sumS_append (L M : List Rg) : sumS (L ++ M) = sumS L + sumS M := by
 induction L with
 | nil => simp [sumS]
 | cons r L ih => simp [sumS, ih]; omega
theorem sumS_nonneg (L : List Rg) : 0 ≤ sumS L := by
 induction L with
 | nil => simp [sumS]
 | cons r L ih => have := szR_pos r; simp [sumS]; omega
theorem bytesS_sum (s : Stt) : ((bytesS s).length : Int) = 3 + sumS s.miss := by
 have key : ∀ L : List Rg, ((L.flatMap encB).length : Int) = sumS L := by
  intro L
  induction L with
  | nil => rfl
  | cons r L ih =>
   rw [List.flatMap_cons, List.length_append]
   have : ((encB r).length : Int) = szR r := by unfold encB szR; split <;> simp [be16]
   simp only [sumS]; omega
 have := key s.miss
 simp only [bytesS, List.length_append, List.length_cons, be16, List.length_nil]
 omega
theorem sumS_take (L : List Rg) (k : Nat) (h : k < L.length) : sumS (L.take (k + 1)) = sumS (L.take k) + szR L[k] := by
 rw [List.take_add_one, List.getElem?_eq_getElem h, sumS_append]; simp [sumS]
theorem sumS_mono (L : List Rg) {i j : Nat} (h : i ≤ j) : sumS (L.take i) ≤ sumS (L.take j) := by
 have e : L.take j = L.take i ++ (L.drop i).take (j - i) := by
  have e1 : L.take j = L.take (i + (j - i)) := by rw [show i + (j - i) = j by omega]
  rw [e1, List.take_add]
 rw [e, sumS_append]
 have := sumS_nonneg ((L.drop i).take (j - i))
 omega
def OneU (L : List Rg) (i k : Nat) : Prop := (∀ j (h : j + 1 < L.length), i = j + 1 → L[j].sn ≠ L[j + 1].sn) ∧ ∀ j (h : j < L.length) (h2 : i < L.length), i ≤ j → j < k → L[j].sn = L[i].sn
theorem fit_form (sp u : Int) (L : List Rg) : ∀ (n k : Nat) (unit : Nat), n = L.length - k → k ≤ L.length → 3 + sumS (L.take k) ≤ sp → OneU L unit k → unit ≤ k → (0 < k → unit < k) →
 (fitS sp u L k (3 + sumS (L.take k)) unit (prevR L k) (L.drop k) = ⟨u, L⟩ ∧ 3 + sumS L ≤ sp) ∨
 ∃ (i m : Nat) (hi : i < L.length), i ≤ m ∧ m < L.length ∧ fitS sp u L k (3 + sumS (L.take k)) unit (prevR L k) (L.drop k) = ⟨L[i].sn, L.take i⟩ ∧ OneU L i (m + 1) ∧ 3 + sumS (L.take m) ≤ sp ∧ sp < 3 + sumS (L.take (m + 1))
 | 0, k, unit, hn, hk, hs, _, _, _ => by
  obtain rfl : k = L.length := by omega
  rw [List.take_length] at hs
  rw [List.drop_length]
  exact .inl ⟨rfl, hs⟩
 | n + 1, k, unit, hn, hk, hs, h1, huk, huk2 => by
  have hlt : k < L.length := by omega
  have hu : OneU L (unitOf k (prevR L k) unit L[k]) (k + 1) ∧ unitOf k (prevR L k) unit L[k] ≤ k := by
   cases k with
   | zero =>
    have : unit = 0 := by omega
    subst this
    have e : unitOf 0 (prevR L 0) 0 L[0] = 0 := rfl
    rw [e]
    refine ⟨⟨fun j h e => by omega, fun j h h2 a b => ?_⟩, Nat.le_refl _⟩
    obtain rfl : j = 0 := by omega
    rfl
   | succ j =>
    have hj : j < L.length := by omega
    have hul := huk2 (by omega)
    have e : unitOf (j + 1) (prevR L (j + 1)) unit L[j + 1] = if L[j + 1].sn ≠ L[j].sn then j + 1 else unit := by simp only [unitOf, prevR, List.getElem?_eq_getElem hj]
    rw [e]
    by_cases c : L[j + 1].sn = L[j].sn
    ·rw [if_neg (not_not_intro c)]
     refine ⟨⟨h1.1, fun i h h2 a b => ?_⟩, by omega⟩
     rcases (show i < j + 1 ∨ i = j + 1 by omega) with h3 | rfl
     ·exact h1.2 i h h2 a h3
     ·rw [c]; exact h1.2 j hj h2 (by omega) (by omega)
    ·rw [if_pos c]
     refine ⟨⟨fun i h e => ?_, fun i h h2 a b => ?_⟩, by omega⟩
     ·obtain rfl : j = i := by omega
      exact fun h => c h.symm
     ·obtain rfl : i = j + 1 := by omega
      rfl
  rw [fit_step _ _ _ _ _ _ hlt]
  obtain ⟨u', hu'⟩ : ∃ u', u' = unitOf k (prevR L k) unit L[k] := ⟨_, rfl⟩
  rw [← hu'] at hu ⊢
  have hst := sumS_take L k hlt
  have hul : u' < L.length := by omega
  by_cases c : 3 + sumS (L.take k) + szR L[k] > sp
  ·rw [if_pos c]
   have hsn : L[k].sn = L[u'].sn := hu.1.2 k hlt hul hu.2 (by omega)
   exact .inr ⟨u', k, hul, hu.2, hlt, by rw [hsn], hu.1, hs, by omega⟩
  ·rw [if_neg c]
   have e : 3 + sumS (L.take k) + szR L[k] = 3 + sumS (L.take (k + 1)) := by omega
   rw [e]
   exact fit_form sp u L n (k + 1) u' (by omega) (by omega) (by omega) hu.1 (by omega) (fun _ => by omega)
theorem way_sub {b u x y : Int} (hb : bitsOk b) (h : way b x u > way b y u) : way b x y = way b x u - way b y u := by
 have hr := way_range b x u; have hr2 := way_range b y u
 unfold way at *
 have : (y - x) % 2 ^ b.toNat = ((u - x) % 2 ^ b.toNat - (u - y) % 2 ^ b.toNat) % 2 ^ b.toNat := by
  rw [← Int.sub_emod]; congr 1; omega
 rw [this]
 exact Int.emod_eq_of_lt (by omega) (by omega)
theorem way_inj {b u x y : Int} (hx : 0 ≤ x ∧ x < 2 ^ b.toNat) (hy : 0 ≤ y ∧ y < 2 ^ b.toNat) (h : way b x u = way b y u) : x = y := by
 unfold way at h
 have h2 : ((u - x) - (u - y)) % 2 ^ b.toNat = 0 := by rw [Int.sub_emod, h, Int.sub_self]; rfl
 have e : (u - x) - (u - y) = y - x := by omega
 rw [e] at h2
 obtain ⟨q, hq⟩ := Int.dvd_of_emod_eq_zero h2
 have hp : (0 : Int) < 2 ^ b.toNat := by omega
 obtain ⟨M, hM⟩ : ∃ M, M = (2 : Int) ^ b.toNat := ⟨_, rfl⟩
 rw [← hM] at hx hy hq hp
 rcases Int.lt_trichotomy q 0 with c | c | c
 ·have : M * q ≤ M * (-1) := Int.mul_le_mul_of_nonneg_left (by omega) (by omega)
  omega
 ·subst c; omega
 ·have : M * 1 ≤ M * q := Int.mul_le_mul_of_nonneg_left (by omega) (by omega)
  omega
theorem chain_mono {b u : Int} {L : List Rg} (h : chainB b u none L = true) : ∀ (d j : Nat) (hj : j + d < L.length), way b L[j + d].sn u ≤ way b L[j].sn u
 | 0, j, hj => Int.le_refl _
 | d + 1, j, hj => by
  have := chain_mono h d j (by omega)
  have h2 := ((chain_iff.1 h).2.2 (j + d) (by omega)).1
  exact Int.le_trans h2 this
theorem fits_law {b sp u : Int} {L : List Rg} (h : okS b ⟨u, L⟩) (hsp : 3 ≤ sp) {X : Stt} (hX : X = fitS sp u L 0 3 0 none L) :
 okS b X ∧ ((bytesS X).length : Int) ≤ sp ∧ (X = ⟨u, L⟩ ∨ ∃ (i : Nat) (hi : i < L.length), X = ⟨L[i].sn, L.take i⟩ ∧ (∀ j (hj : j + 1 < L.length), i = j + 1 → L[j].sn ≠ L[i].sn) ∧ 1 ≤ way b L[i].sn u ∧
  ∀ g, i < g → g ≤ L.length → (∀ hg : g < L.length, L[g].sn ≠ L[i].sn) → sp < ((bytesS ⟨u, L.take g⟩).length : Int)) := by
 have h0 := h
 obtain ⟨h1, h2, h3, h4⟩ := h
 simp only at h2 h3 h4
 have hc := chain_iff.1 h4
 rcases fit_form sp u L L.length 0 0 (by omega) (by omega) (by simpa [sumS] using hsp) ⟨fun j h e => by omega, fun j h h2 a b => by omega⟩ (by omega) (by omega) with ⟨f1, f2⟩ | ⟨i, m, hi, him, hm, f1, f2, f3, f4⟩
 ·have f1 : X = ⟨u, L⟩ := by rw [hX]; simpa [sumS, prevR] using f1
  subst f1
  exact ⟨h0, by rw [bytesS_sum]; exact f2, .inl rfl⟩
 ·have f1 : X = ⟨L[i].sn, L.take i⟩ := by rw [hX]; simpa [sumS, prevR] using f1
  have hoi := hc.1 i hi
  have hgt : ∀ k (hk : k < i), way b (L[k]'(by omega)).sn u > way b L[i].sn u := fun k hk => by
   obtain ⟨j, rfl⟩ : ∃ j, i = j + 1 := ⟨i - 1, by omega⟩
   have hj : j + 1 < L.length := hi
   have hne := f2.1 j hj rfl
   have hl := ((hc.2.2) j hj).1
   have hm := chain_mono h4 (j - k) k (by omega)
   have hoj := hc.1 j (by omega)
   have hjk : k + (j - k) = j := by omega
   simp only [hjk] at hm
   have : way b L[j].sn u ≠ way b L[j + 1].sn u := fun e => hne (way_inj hoj.1 hoi.1 e)
   omega
  have hwk : ∀ k (hk : k < i), way b (L[k]'(by omega)).sn L[i].sn = way b (L[k]'(by omega)).sn u - way b L[i].sn u := fun k hk => way_sub h1 (hgt k hk)
  subst f1
  refine ⟨⟨h1, hoi.1, by simp; omega, ?_⟩, by rw [bytesS_sum]; have := sumS_mono L him; simp only; omega, .inr ⟨i, hi, rfl, fun j hj e => ?_, hoi.2.1.1, fun g hg hgl hgn => ?_⟩⟩
  ·rw [chain_iff]
   refine ⟨fun k hk => ?_, fun _ => trivial, fun k hk => ?_⟩
   ·simp only [List.length_take] at hk
    simp only [List.getElem_take]
    have ho := hc.1 k (by omega)
    have := hgt k (by omega)
    refine ⟨ho.1, ?_, ho.2.2⟩
    rw [hwk k (by omega)]
    have := ho.2.1; have := hoi.2.1
    omega
   ·simp only [List.length_take] at hk
    simp only [List.getElem_take]
    have hl := hc.2.2 k (by omega)
    unfold linkR at hl ⊢
    rw [hwk k (by omega), hwk (k + 1) (by omega)]
    exact ⟨by omega, fun e => hl.2 (by omega)⟩
  ·subst e
   exact f2.1 j hj rfl
  ·rw [bytesS_sum]
   have hgm : m + 1 ≤ g := by
    rcases Nat.lt_or_ge m g with h | h
    ·exact h
    ·exact absurd (f2.2 g (by omega) hi (by omega) (by omega)) (hgn (by omega))
   have := sumS_mono L hgm
   simp only; omega
end Go.Sx
namespace Go.Sx
theorem getN1 (x : Int) : getN [x] = x := by simp [getN]
theorem getN2 (x y : Int) : getN [x, y] = 256 * x + y := by simp [getN]
theorem take1 {l : List Int} (h : ¬ l.length < 1) : ∃ x r, l = x :: r := by
 cases l with
 | nil => simp at h
 | cons x r => exact ⟨x, r, rfl⟩
theorem take2 {l : List Int} (h : ¬ l.length < 2) : ∃ x y r, l = x :: y :: r := by
 rcases l with _ | ⟨x, _ | ⟨y, r⟩⟩
 ·simp at h
 ·simp at h
 ·exact ⟨x, y, r, rfl⟩
theorem bytes2 {x y : Int} {l : List Int} (h : Bytes (x :: y :: l)) : (0 ≤ x ∧ x < 256) ∧ (0 ≤ y ∧ y < 256) ∧ Bytes l :=
 ⟨h 0 (by simp), h 1 (by simp), fun i hi => h (i + 2) (by simpa using hi)⟩
theorem bytes1 {x : Int} {l : List Int} (h : Bytes (x :: l)) : (0 ≤ x ∧ x < 256) ∧ Bytes l :=
 ⟨h 0 (by simp), fun i hi => h (i + 1) (by simpa using hi)⟩
def rdX (k : Nat) (v : Int) : List Int → Option (List Rg)
 | e :: f :: g :: h :: l => (rdR k l).map (⟨v / 16, 256 * e + f, 256 * g + h⟩ :: ·)
 | _ => none
theorem rdR_step (k : Nat) (p q : Int) (l : List Int) : rdR (k + 1) (p :: q :: l) = if (256 * p + q) % 16 = 1 then rdX k (256 * p + q) l else (rdR k l).map (⟨(256 * p + q) / 16, 0, 0⟩ :: ·) := by
 rcases l with _ | ⟨e, _ | ⟨f, _ | ⟨g, _ | ⟨h, l⟩⟩⟩⟩ <;> rfl
end Go.Sx
namespace Go.Proofs.YtmbppohkadmjgaaGreat
open Go.Sx Go.RowKit
abbrev rd (b2 : Nat) (a : Option Addr) (c : Nat) (rest : List Int) : Res := .blk b2 Ty_status_reader [.slice a rest.length c]
def RetS (w : World) (s : Stt) (er : Int) : Ending → World → Prop := fun e w' => ∃ a c, s.miss.length ≤ c ∧ e = .returned (.tuple #[.agg #[.int .i64 s.upto, .slice a s.miss.length c], .int .i64 er]) ∧ Fresh w w' fun w => SlR (CE encR) 3 w a s.miss
theorem RetS.zero {w w' : World} (b : Below w.heap.size w w') (er : Int) : RetS w .zero er (.returned (.tuple #[.agg #[.int .i64 0, .slice none 0 0], .int .i64 er])) w' :=
 ⟨none, 0, Nat.le_refl _, rfl, ((St.nil w).pass b).imp fun _ _ => .inl rfl⟩
end Go.Proofs.YtmbppohkadmjgaaGreat
namespace Go.Sx
open Go.RowKit
section
variable {P : Program} {ops : Array Oper} {Q : Exit → Act → List Frame → World → Prop} {i : Nat} {rest : List Nat} {a : Act} {cs cs' : List Frame} {w : World} {o : Oper} {v : Value}
theorem wpOpsS_some (ho : ops[i]? = some o) (hg : o.guard = none) (hr : (execOp a.eval o).run P w = .ok .recover w) (hc : recoverD cs = some (v, cs')) (h : wpOpsS P ops Q rest (a.put o.dst v) cs' w) : wpOpsS P ops Q (i :: rest) a cs w := by
 simp only [wpOpsS, ho, Region.wanted, hg, if_true, hr, hc]; exact h
theorem wpOpsS_none (ho : ops[i]? = some o) (hg : o.guard = none) (hr : (execOp a.eval o).run P w = .ok .recover w) (hc : recoverD cs = none) (h : wpOpsS P ops Q rest (a.put o.dst .nilIface) cs w) : wpOpsS P ops Q (i :: rest) a cs w := by
 simp only [wpOpsS, ho, Region.wanted, hg, if_true, hr, hc]; exact h
theorem wpOpsS_val (ho : ops[i]? = some o) (hg : o.guard = none) (hr : (execOp a.eval o).run P w = .ok (.value v) w) (h : wpOpsS P ops Q rest (a.put o.dst v) cs w) : wpOpsS P ops Q (i :: rest) a cs w := by
 simp only [wpOpsS, ho, Region.wanted, hg, if_true, hr]; exact h
theorem wpOpsS_does {k : TypeId → List Kind} (ho : ops[i]? = some o) (hg : o.guard = none) (h : sxOp P ⟨k, none⟩ o (envOf a) w fun v w' => wpOpsS P ops Q rest (a.put o.dst v) cs w') : wpOpsS P ops Q (i :: rest) a cs w := by
 simp only [wpOpsS, ho, Region.wanted, hg, if_true]
 have hd := sxOp_does h
 cases hd with
 | value v w' hr hk => rw [ev_envOf] at hr; rw [hr]; exact hk
 | skip w' hr hk => rw [ev_envOf] at hr; rw [hr]; exact hk
 | enter f args w' hr hk =>
  rw [ev_envOf] at hr; rw [hr]
  refine Calls.mono hk ?_
  rintro _ w2 (⟨v, rfl, hk⟩ | ⟨_, _, hk⟩)
  ·exact hk
  ·exact hk.elim
 | panic v w' hr hk => exact hk.elim
end
end Go.Sx
namespace Go.Proofs.YtmbppohkadmjgaaGreat
open Go.Sx Go.RowKit

set_option maxRecDepth 100000
def endedV : Value := .iface Ty_status_ended (.agg #[])
def iface_t : TypeId := 20
theorem neq_some (w : World) : (do eqGuard .neq 20 (.tmp 4) (.const .nilIface) (.iface Ty_status_ended (.agg #[])) .nilIface; binOp .neq 20 (.iface Ty_status_ended (.agg #[])) .nilIface : Sem Value).run Tryz.prog w = .ok (.bool true) w := by rfl
theorem neq_none (w : World) : (do eqGuard .neq 20 (.tmp 4) (.const .nilIface) .nilIface .nilIface; binOp .neq 20 .nilIface .nilIface : Sem Value).run Tryz.prog w = .ok (.bool false) w := by rfl

theorem body1 : Tryz.f88.body = some (.seq (.region 0 #[{ dst := some 3, op := .call { callee := .builtin .recover, args := #[], argTypes := #[] }, type := 20, pos := "status.go:94", after := #[], guard := none },
 { dst := some 2, op := .assign (.tmp 3), type := 20, pos := "status.go:94", after := #[{ on := 0, ground := .data }, { on := 0, ground := .chain }, { on := 0, ground := .phase }], guard := none }] false)
 (.seq (.region 1 #[{ dst := some 4, op := .move (.tmp 2), type := 20, pos := "status.go:94", after := #[], guard := none },
  { dst := some 5, op := .binOp .neq 20 (.tmp 4) (.const .nilIface) 20, type := 4, pos := "status.go:94", after := #[{ on := 0, ground := .data }], guard := none }] false)
  (.cond (.tmp 5) (.region 2 #[{ dst := some 6, op := .build Ty_api_Status #[], type := Ty_api_Status, pos := "status.go:95", after := #[], guard := none },
   { dst := none, op := .store Ty_api_Status (.tmp 0) (.tmp 6), type := 0, pos := "status.go:95", after := #[{ on := 0, ground := .data }, { on := 0, ground := .phase }], guard := none },
   { dst := none, op := .store Ty_api_Errno (.tmp 1) (.const (.int .i64 5)), type := 0, pos := "status.go:95", after := #[{ on := 1, ground := .chain }, { on := 0, ground := .phase }, { on := 1, ground := .phase }], guard := none }] false) .skip))) := by rfl

theorem decode1_ret {b b1 : Nat} {w : World} {Post : World → Prop} (h : Post w) :
 CallsD Tryz.prog N_status_Decode_1 #[(.pointer (some ⟨b, 0, none⟩)), (.pointer (some ⟨b1, 0, none⟩))] .returning w fun x u w' => (∃ v, x = .returned v) ∧ settle u = .returning ∧ Post w' := by
 refine callsD_of_wpS (fn := Tryz.f88) Tryz.func88 body1 fun c₀ cs hu => ?_
 refine wpS_seq (wpS_region ?_)
 have e0 : recoverD (c₀ :: cs) = none := by simp [recoverD, hu]
 refine wpOpsS_none rfl rfl (by rfl) e0 ?_
 refine wpOpsS_val (v := .nilIface) rfl rfl (by rfl) ?_
 show (Code.seq (.region 1 _ false) _).wpS Tryz.prog _ (⟨#[.pointer (some ⟨b, 0, none⟩), .pointer (some ⟨b1, 0, none⟩), .nilIface, .nilIface, undef, undef, undef], []⟩ : Act) (c₀ :: cs) w
 refine wpS_seq (wpS_region ?_)
 refine wpOpsS_val (v := .nilIface) rfl rfl (by rfl) ?_
 refine wpOpsS_val (v := .bool false) rfl rfl (by
  show (do let v ← (do eqGuard .neq 20 (.tmp 4) (.const .nilIface) .nilIface .nilIface; binOp .neq 20 .nilIface .nilIface : Sem Value); pure (Next.value v) : Sem Next).run _ _ = _
  rw [bind_ok (neq_none w)]; rfl) ?_
 refine wpS_cond (t := false) (by rfl) ?_
 obtain ⟨v, hr, -⟩ := results_run (P := Tryz.prog) (k := TTk) (fn := Tryz.f88) (a := ⟨#[.pointer (some ⟨b, 0, none⟩), .pointer (some ⟨b1, 0, none⟩), .nilIface, .nilIface, .nilIface, .bool false, undef], []⟩) (w := w) (F := fun _ => True) trivial
 refine wpS_of_wp (wp_skip ⟨rfl, .returning, ?_, v, hr, ⟨_, rfl⟩, rfl, h⟩)
 rw [← hu]
def actS (b b1 : Nat) : Act := ⟨#[.pointer (some ⟨b, 0, none⟩), .pointer (some ⟨b1, 0, none⟩), endedV, endedV, endedV, .bool true, .agg #[.int .i64 0, .slice none 0 0]], []⟩
theorem store1 {b b1 : Nat} {w : World} (K : Value → World → Prop) : sxOp Tryz.prog ⟨TTk, none⟩ { dst := none, op := .store Ty_api_Status (.tmp 0) (.tmp 6), type := 0, pos := "status.go:95", after := #[{ on := 0, ground := .data }, { on := 0, ground := .phase }], guard := none } (envOf (actS b b1)) w K
 = sxStore w ⟨b, 0, none⟩ 0 [.int .i64 0, .slice none 0 0] fun w' => K undef w' := by kernel_rfl
theorem store2 {b b1 : Nat} {w : World} (K : Value → World → Prop) : sxOp Tryz.prog ⟨TTk, none⟩ { dst := none, op := .store Ty_api_Errno (.tmp 1) (.const (.int .i64 5)), type := 0, pos := "status.go:95", after := #[{ on := 1, ground := .chain }, { on := 0, ground := .phase }, { on := 1, ground := .phase }], guard := none } (envOf (actS b b1)) w K
 = sxStore w ⟨b1, 0, none⟩ 0 [.int .i64 5] fun w' => K undef w' := by kernel_rfl
theorem decode1_pan {b b1 : Nat} {w : World} {Post : World → Prop} (h : sxStore w ⟨b, 0, none⟩ 0 [.int .i64 0, .slice none 0 0] fun w1 => kSet w1 ⟨b1, 0, none⟩ (.int .i64 5) Post) :
 CallsD Tryz.prog N_status_Decode_1 #[(.pointer (some ⟨b, 0, none⟩)), (.pointer (some ⟨b1, 0, none⟩))] (.panicking [{ v := endedV, recovered := false }]) w fun x u w' => (∃ v, x = .returned v) ∧ settle u = .returning ∧ Post w' := by
 refine callsD_of_wpS (fn := Tryz.f88) Tryz.func88 body1 fun c₀ cs hu => ?_
 refine wpS_seq (wpS_region ?_)
 have e0 : recoverD (c₀ :: cs) = some (endedV, { c₀ with mode := .panicking [{ v := endedV, recovered := true }] } :: cs) := by simp [recoverD, hu]
 refine wpOpsS_some rfl rfl (by rfl) e0 ?_
 refine wpOpsS_val (v := endedV) rfl rfl (by rfl) ?_
 show (Code.seq (.region 1 _ false) _).wpS Tryz.prog _ (⟨#[.pointer (some ⟨b, 0, none⟩), .pointer (some ⟨b1, 0, none⟩), endedV, endedV, undef, undef, undef], []⟩ : Act) ({ c₀ with mode := .panicking [{ v := endedV, recovered := true }] } :: cs) w
 refine wpS_seq (wpS_region ?_)
 refine wpOpsS_val (v := endedV) rfl rfl (by rfl) ?_
 refine wpOpsS_val (v := .bool true) rfl rfl (by
  show (do let v ← (do eqGuard .neq 20 (.tmp 4) (.const .nilIface) (.iface Ty_status_ended (.agg #[])) .nilIface; binOp .neq 20 (.iface Ty_status_ended (.agg #[])) .nilIface : Sem Value); pure (Next.value v) : Sem Next).run _ _ = _
  rw [bind_ok (neq_some w)]; rfl) ?_
 refine wpS_cond (t := true) (by rfl) ?_
 refine wpS_region ?_
 refine wpOpsS_val (v := .agg #[.int .i64 0, .slice none 0 0]) rfl rfl (by kernel_rfl) ?_
 show wpOpsS Tryz.prog _ _ [1, 2] (actS b b1) _ w
 refine wpOpsS_does (k := TTk) rfl rfl (Eq.mpr (store1 _) ?_)
 obtain ⟨w1, w2, k1, k2, hP⟩ : ∃ w1 w2, (∀ K : World → Prop, K w1 → sxStore w ⟨b, 0, none⟩ 0 [.int .i64 0, .slice none 0 0] K) ∧ (∀ K : World → Prop, K w2 → kSet w1 ⟨b1, 0, none⟩ (.int .i64 5) K) ∧ Post w2 := by
  simp only [sxStore, bcond_iff] at h
  obtain ⟨h1, h2, h3, h4, h5, h6, h7, h8, h9⟩ := h
  exact ⟨_, _, fun K hK => by simp only [sxStore, bcond_iff]; exact ⟨h1, h2, h3, h4, h5, h6, hK⟩, fun K hK => ⟨h7, h8, hK⟩, h9⟩
 refine k1 _ ?_
 show wpOpsS Tryz.prog _ _ [2] (actS b b1) _ w1
 refine wpOpsS_does (k := TTk) rfl rfl (Eq.mpr (store2 _) ?_)
 obtain ⟨q1, q2, q3⟩ := k2 (fun w3 => w3 = w2) rfl
 refine ⟨q1, q2, ?_⟩
 have q3 : w1.setCell ⟨b1, 0, none⟩ (.int .i64 5) = w2 := q3
 subst q3
 obtain ⟨v, hr, -⟩ := results_run (P := Tryz.prog) (k := TTk) (fn := Tryz.f88) (a := actS b b1) (w := w1.setCell ⟨b1, 0, none⟩ (.int .i64 5)) (F := fun _ => True) trivial
 exact ⟨rfl, .panicking [{ v := endedV, recovered := true }], rfl, v, hr, ⟨_, rfl⟩, rfl, hP⟩
end Go.Proofs.YtmbppohkadmjgaaGreat
namespace Go.Sx
end Go.Sx
namespace Go.Proofs.YtmbppohkadmjgaaGreat
open Go.Sx Go.RowKit
def ended : List PanicEntry := [{ v := endedV, recovered := false }]
section
variable {b2 : Nat} {a : Option Addr} {c : Nat} {rest : List Int} {w : World} {A : Nat → Prop} {P : World → Prop}
theorem status_reader_take_ct (hP : Held A w P) (hr : (rd b2 a c rest).ok w) (hn : ∀ b, (rd b2 a c rest).at = some b → ¬ A b) (hs : ∀ w, P w → SlR (IntC .u8) 1 w a rest) (hb : Bytes rest) (hc : rest.length ≤ c) (n : Nat) (hn7 : n ≤ 7) :
 Calls Tryz.prog N_status_reader_take #[(.pointer (some ⟨b2, 0, none⟩)), (.int .i64 n)] w fun e w' => (rest.length < n ∧ e = .panicked ended ∧ St A [b2] w w' [rd b2 a c rest] P) ∨
  (n ≤ rest.length ∧ e = .returned (.int .i64 (getN (rest.take n))) ∧ St A [b2] w w' [rd b2 (slAddr c n 1 a) (c - n) (rest.drop n)] P) := by
 apply F_status_reader_take_ok
 unfold F_status_reader_take
 have H : St A [b2] w w [rd b2 a c rest] P := St.startM hP hr hn
 refine ⟨fun w1 => n ≤ rest.length ∧ St A [b2] w w1 [rd b2 a c rest] P, ?_, ?_⟩
 ·rintro _  w1 ⟨hnl, H1⟩
  refine H1.ldS (i := 0) rfl rfl ?_
  refine ⟨⟨by omega, by omega⟩, ?_⟩
  rw [Int.toNat_natCast]
  refine ⟨fun x x1 => ((n - x1).toNat, fun w2 => ∃ k : Nat, x1 = k ∧ k ≤ n ∧ x = getN (rest.take k) ∧ St A [b2] w w2 [rd b2 a c rest] P), ⟨0, rfl, Nat.zero_le _, by simp [getN], H1⟩, ?_⟩
  clear H1
  rintro _ x x1 w2 ⟨k, rfl, hk, rfl, H2⟩
  refine bsplit_dec (fun c1 => ?_) (fun c1 => ?_)
  ·have hlt : k < rest.length := by omega
   have hr := getN_range (l := rest.take k) fun i hi => by
    simp only [List.getElem_take]
    exact hb _ _
   have hp := pow256_le (n := (rest.take k).length) (by simp; omega)
   have hx := hb k hlt
   have es : rest.take (k + 1) = rest.take k ++ [rest[k]] := by rw [List.take_add_one, List.getElem?_eq_getElem hlt]; rfl
   have hr2 := getN_range (l := rest.take (k + 1)) fun i hi => by
    simp only [List.getElem_take]
    exact hb _ _
   have hp2 := pow256_le (n := (rest.take (k + 1)).length) (by simp; omega)
   rw [es, getN_snoc] at hr2
   rw [← es] at hr2
   have hsn : SlR (IntC .u8) 1 w2 (slAddr c 0 1 a) (rest.take n) := (hs _ H2.get).pre c n
   have eln : n - 0 = (rest.take n).length := by simp; omega
   rw [eln]
   refine ixE hsn k rfl (by simp; omega) fun b x hxk hb1 => ?_
   obtain rfl : rest[k] = x := by
    rw [List.getElem?_take, if_pos (by omega), List.getElem?_eq_getElem hlt] at hxk; injection hxk
   refine ⟨_, hb1, ?_⟩
   refine kW_i64 (by omega) ?_
   refine kW_i64 (by omega) ?_
   refine kLet_intro fun x5 hx5 => ?_
   rw [bOr_i64 8 (getN (rest.take k)) (by omega) (by omega) (by omega) (by omega)] at hx5
   refine kW_i64 (by omega) ?_
   exact ⟨⟨k + 1, by omega, by omega, by rw [es, getN_snoc, hx5]; omega, H2⟩, by dsimp only; omega⟩
  ·obtain rfl : k = n := by omega
   refine H2.ldS (i := 0) rfl rfl ?_
   refine ⟨⟨by omega, by omega⟩, ?_⟩
   refine H2.set (i := 0) rfl (by simp) ?_; clear H2; intro w3 H3
   have el : rest.length - k = (rest.drop k).length := by simp
   rw [el] at H3
   exact .inr ⟨hnl, rfl, H3⟩
 ·refine H.ldS (i := 0) rfl rfl ?_
  refine bsplit_dec (fun cc => ?_) (fun cc => ?_)
  ·exact .inl ⟨by omega, rfl, H⟩
  ·exact ⟨by omega, H⟩
end
section
variable {A0 : Nat → Prop} {M : List Nat} {w0 w : World} {R : List Res} {P : World → Prop} {i b2 : Nat} {a : Option Addr} {c : Nat} {rest : List Int}
theorem dTake (H : St A0 M w0 w R P) (hi : R[i]? = some (rd b2 a c rest)) (hs : ∀ w, P w → SlR (IntC .u8) 1 w a rest) (hb : Bytes rest) (hc : rest.length ≤ c) (n : Nat) (hn7 : n ≤ 7) {K : Int → World → Prop} {Pn : List PanicEntry → World → Prop}
 (hp : rest.length < n → ∀ w', St A0 M w0 w' R P → Pn ended w')
 (h : n ≤ rest.length → ∀ w', St A0 M w0 w' (R.set i (rd b2 (slAddr c n 1 a) (c - n) (rest.drop n))) P → K (getN (rest.take n)) w') :
 Calls Tryz.prog N_status_reader_take #[(.pointer (some ⟨b2, 0, none⟩)), (.int .i64 n)] w fun e w' => (∃ r : Int, e = .returned (.int .i64 r) ∧ K r w') ∨ ∃ ch : List PanicEntry, e = .panicked ch ∧ Pn ch w' := by
 obtain ⟨A, hA, hn', hr, hcc⟩ := H.callM hi
 refine (status_reader_take_ct hA hr hn' hs hb hc n hn7).mono ?_
 rintro _ w2 (⟨h1, rfl, S⟩ | ⟨h1, rfl, S⟩)
 ·have := hcc S
  rw [List.append_nil, list_set_self hi] at this
  exact .inr ⟨_, rfl, hp h1 w2 (this.imp fun _ h => h.2)⟩
 ·have := hcc S
  rw [List.append_nil] at this
  exact .inl ⟨_, rfl, h h1 w2 (this.imp fun _ h => h.2)⟩
end
section
variable {bits : Int} {b_a : Option Addr} {bs : List Int} {b_c : Nat} {w : World}
theorem leave_pan {w' : World} {R : List Res} {P : World → Prop} {A0 : Nat → Prop} {b b1 : Nat} {u e : Int} {ma : Option Addr} {ml mc : Nat} (H : St A0 [] w w' R P) (h0 : R[0]? = some (.blk b Ty_api_Status [.int .i64 u, .slice ma ml mc])) (h1 : R[1]? = some (.blk b1 Ty_api_Errno [.int .i64 e])) :
 L_status_Decode b b1 (fun v w' => RetS w .zero 5 (.returned v) w') (.panicking ended) w' := by
 refine ⟨by kernel_rfl, decode1_pan ?_⟩
 refine H.store h0 (by rfl) (by rfl) fun w1 H1 => ?_
 have h1' : (R.set 0 (.blk b Ty_api_Status [.int .i64 0, .slice none 0 0]))[1]? = some (.blk b1 Ty_api_Errno [.int .i64 e]) := by rw [List.getElem?_set_ne (by omega)]; exact h1
 refine H1.set h1' (by simp) fun w2 H2 => ?_
 have l0 : 0 < R.length := (List.getElem?_eq_some_iff.1 h0).1
 have l1 : 1 < R.length := (List.getElem?_eq_some_iff.1 h1).1
 refine ⟨_, _, _, _, H2.cells (i := 0) (b := b) (t := Ty_api_Status) (by rw [List.getElem?_set_ne (by omega), List.getElem?_set_self l0]), ?_⟩
 refine H2.ld (i := 1) (by rw [List.getElem?_set_self (by simpa using l1)]) rfl ?_
 exact RetS.zero H2.fin.below _
theorem leave_ret {w' : World} {R : List Res} {P : World → Prop} {A0 : Nat → Prop} {b b1 : Nat} {e : Int} {s : Stt} {ma : Option Addr} {mc : Nat} (H : St A0 [] w w' R P) (h0 : R[0]? = some (.blk b Ty_api_Status [.int .i64 s.upto, .slice ma s.miss.length mc])) (h1 : R[1]? = some (.blk b1 Ty_api_Errno [.int .i64 e]))
 (hf : s.miss.length ≤ mc ∧ Fresh w w' fun w => SlR (CE encR) 3 w ma s.miss) : L_status_Decode b b1 (fun v w' => RetS w s e (.returned v) w') .returning w' := by
 refine ⟨by kernel_rfl, decode1_ret ?_⟩
 refine ⟨_, _, _, _, H.cells h0, ?_⟩
 refine H.ld h1 rfl ?_
 exact ⟨_, _, hf.1, rfl, hf.2⟩
theorem status_Decode_ct (hs : SlR (IntC .u8) 1 w b_a bs) (hb : Bytes bs) (hc : bs.length ≤ b_c) (hl : bs.length ≤ 140737488355328) :
 Calls Tryz.prog N_status_Decode #[(.int .i64 bits), (.slice b_a bs.length b_c)] w (RetS w (decS bits bs).1 (decS bits bs).2) := by
 apply F_status_Decode_ok
 unfold F_status_Decode
 have H := (St.startA w).hold (slr_held hs)
 refine H.alloc ?_; clear H; intro b w1 H1
 refine H1.alloc ?_; clear H1; intro b1 w2 H2
 refine counter_Bits_ct.mono ?_
 rintro _ w3 ⟨rfl, hb3⟩; have H3 := H2.pass hb3; clear H2
 refine ⟨_, rfl, ?_⟩
 refine bsplit_nd (fun c => ?_) (fun c => ?_)
 ·have e0 : decS bits bs = (.zero, 3) := if_pos c
  rw [e0]
  refine H3.store (i := 0) rfl (by rfl) (by rfl) ?_; clear H3; intro w4 H4
  refine H4.set (i := 1) rfl (by simp) ?_; clear H4; intro w5 H5
  refine ⟨_, _, _, _, H5.cells (i := 0) rfl, ?_⟩
  refine H5.ld (i := 1) rfl rfl ?_
  exact RetS.zero H5.fin.below _
 ·have e0 : decS bits bs = match rdS bs with | none => (.zero, 5) | some s => if okS bits s ∧ bytesS s = bs then (s, 0) else (.zero, 4) := if_neg (not_not_intro c)
  have none_ : ∀ {w' : World} {R : List Res} {P : World → Prop} {A0 : Nat → Prop} {u e : Int} {ma : Option Addr} {ml mc : Nat}, rdS bs = none → St A0 [] w w' R P → R[0]? = some (.blk b Ty_api_Status [.int .i64 u, .slice ma ml mc]) → R[1]? = some (.blk b1 Ty_api_Errno [.int .i64 e]) →
   L_status_Decode b b1 (fun v w' => RetS w (decS bits bs).1 (decS bits bs).2 (.returned v) w') (.panicking ended) w' := fun h H h0 h1 => by
   rw [e0, h]; exact leave_pan H h0 h1
  refine H3.alloc ?_; clear H3; intro b2 w6 H6
  refine dTake H6 (i := 2) (c := b_c) rfl (fun _ h => h.1) hb hc 2 (by omega) (fun h w' H' => none_ (by
   rcases bs with _ | ⟨x, _ | ⟨y, r⟩⟩
   ·rfl
   ·rfl
   ·(simp only [List.length_cons] at h; omega)) H' rfl rfl) fun h w7 H7 => ?_
  obtain ⟨x, y, r1, rfl⟩ := take2 (show ¬ bs.length < 2 by omega)
  obtain ⟨hx, hy, hb1⟩ := bytes2 hb
  simp only [List.take_succ_cons, List.take_zero, List.drop_succ_cons, List.drop_zero, getN2] at H7 ⊢
  clear H6
  have s1 : SlR (IntC .u8) 1 w (slAddr b_c 2 1 b_a) r1 := by have := hs.tail (l := 2) hc; simpa using this
  have c1 : r1.length ≤ b_c - 2 := by simp only [List.length_cons] at hc; omega
  have H7 := H7.hold (slr_held s1)
  refine H7.set (i := 0) rfl (by simp) ?_; clear H7; intro w8 H8
  refine dTake H8 (i := 2) (c := b_c - 2) rfl (fun _ h => h.1) hb1 c1 1 (by omega) (fun h w' H' => none_ (by
   cases r1 with
   | nil => rfl
   | cons n r => simp at h) H' rfl rfl) fun h w9 H9 => ?_
  obtain ⟨n, r2, rfl⟩ := take1 (show ¬ r1.length < 1 by omega)
  obtain ⟨hn, hb2⟩ := bytes1 hb1
  simp only [List.take_succ_cons, List.take_zero, List.drop_succ_cons, List.drop_zero, getN1] at H9 ⊢
  clear H8
  have s2 : SlR (IntC .u8) 1 w (slAddr (b_c - 2) 1 1 (slAddr b_c 2 1 b_a)) r2 := by have := s1.tail (l := 1) c1; simpa using this
  have c2 : r2.length ≤ b_c - 2 - 1 := by simp only [List.length_cons] at c1; omega
  obtain ⟨m, rfl⟩ := natOf hn.1
  have H9 := H9.nilE encR Ty_api_Range 3
  have hrd : rdS (x :: y :: (m : Int) :: r2) = (rdR m r2).map (⟨256 * x + y, ·⟩) := by simp [rdS]
  refine ⟨fun n => (n.toNat, fun w10 => ∃ (k : Nat) (a : Option Addr) (c : Nat) (rest : List Int) (L : List Rg) (ma : Option Addr) (mc : Nat), n = k ∧ k ≤ 255 ∧ SlR (IntC .u8) 1 w a rest ∧ rest.length ≤ c ∧ Bytes rest ∧ L.length + k ≤ 255 ∧ (rdR m r2).map (⟨256 * x + y, ·⟩) = (rdR k rest).map (fun L' => (⟨256 * x + y, L ++ L'⟩ : Stt)) ∧
   St (All w) [] w w10 [.blk b Ty_api_Status [.int .i64 (256 * x + y), .slice ma L.length mc], .blk b1 Ty_api_Errno [.int .i64 0], rd b2 a c rest, .els encR Ty_api_Range 3 ma mc L] fun w => SlR (IntC .u8) 1 w b_a (x :: y :: (m : Int) :: r2)),
   ⟨m, _, _, r2, [], none, 0, rfl, by omega, s2, c2, hb2, by simp; omega, by simp, H9.imp fun _ h => h.2.1⟩, ?_⟩
  clear H9
  rintro _ n w10 ⟨k, a, c, rest, L, ma, mc, rfl, hk, hsr, hcr, hbr, hLk, hrd2, H10⟩
  rw [hrd2] at hrd
  have H10' := H10.hold (slr_held hsr)
  refine bsplit_dec (fun cc => ?_) (fun cc => ?_)
  ·obtain ⟨k, rfl⟩ : ∃ j, k = j + 1 := ⟨k - 1, by omega⟩
   refine dTake H10' (i := 2) rfl (fun _ h => h.1) hbr hcr 2 (by omega) (fun h w' H' => none_ (by
    rw [hrd]
    rcases rest with _ | ⟨x, _ | ⟨y, r⟩⟩
    ·rfl
    ·rfl
    ·(simp only [List.length_cons] at h; omega)) H' rfl rfl) fun h w11 H11 => ?_
   clear H10 H10'
   obtain ⟨p, q, r3, rfl⟩ := take2 (show ¬ rest.length < 2 by omega)
   obtain ⟨hp, hq, hb3⟩ := bytes2 hbr
   simp only [List.take_succ_cons, List.take_zero, List.drop_succ_cons, List.drop_zero, getN2] at H11 ⊢
   have s3 : SlR (IntC .u8) 1 w (slAddr c 2 1 a) r3 := by have := hsr.tail (l := 2) hcr; simpa using this
   have c3 : r3.length ≤ c - 2 := by simp only [List.length_cons] at hcr; omega
   obtain ⟨v, hv⟩ : ∃ v, v = 256 * p + q := ⟨_, rfl⟩
   have hvr : 0 ≤ v ∧ v < 65536 := by omega
   have hstep : rdR (k + 1) (p :: q :: r3) = if v % 16 = 1 then rdX k v r3 else (rdR k r3).map (⟨v / 16, 0, 0⟩ :: ·) := by rw [hv, rdR_step]
   rw [← hv]
   refine kFdiv ?_
   have e16 : v / 2 ^ 4 = v / 16 := rfl
   rw [e16]
   refine H11.alloc ?_; clear H11; intro b3 w12 H12
   refine H12.store (i := 4) rfl (by rfl) (by rfl) ?_; clear H12; intro w13 H13
   refine kLet_intro fun x1 hx1 => ?_
   have hx1 : x1 = v % 16 := by rw [hx1]; exact bAnd_i64 4 (by omega) (by omega) (by decide)
   refine bsplit_dec (fun c5 => ?_) (fun c5 => ?_)
   ·rw [if_pos (by omega)] at hstep
    have H13' := H13.hold (slr_held s3)
    refine dTake H13' (i := 2) rfl (fun _ h => h.1) hb3 c3 2 (by omega) (fun h w' H' => none_ (by
     rw [hrd, hstep]
     rcases r3 with _ | ⟨e, _ | ⟨f, r⟩⟩
     ·rfl
     ·rfl
     ·(simp only [List.length_cons] at h; omega)) H' rfl rfl) fun h w14 H14 => ?_
    clear H13 H13'
    obtain ⟨e, f, r4, rfl⟩ := take2 (show ¬ r3.length < 2 by omega)
    obtain ⟨he, hf, hb4⟩ := bytes2 hb3
    simp only [List.take_succ_cons, List.take_zero, List.drop_succ_cons, List.drop_zero, getN2] at H14 ⊢
    have s4 : SlR (IntC .u8) 1 w (slAddr (c - 2) 2 1 (slAddr c 2 1 a)) r4 := by have := s3.tail (l := 2) c3; simpa using this
    have c4 : r4.length ≤ c - 2 - 2 := by simp only [List.length_cons] at c3; omega
    have H14' := H14.hold (slr_held s4)
    refine dTake H14' (i := 2) rfl (fun _ h => h.1) hb4 c4 2 (by omega) (fun h w' H' => none_ (by
     rw [hrd, hstep]
     rcases r4 with _ | ⟨g, _ | ⟨h', r⟩⟩
     ·rfl
     ·rfl
     ·(simp only [List.length_cons] at h; omega)) H' rfl rfl) fun h w15 H15 => ?_
    clear H14 H14'
    obtain ⟨g, i, r5, rfl⟩ := take2 (show ¬ r4.length < 2 by omega)
    obtain ⟨hg, hi, hb5⟩ := bytes2 hb4
    simp only [List.take_succ_cons, List.take_zero, List.drop_succ_cons, List.drop_zero, getN2] at H15 ⊢
    have s5 : SlR (IntC .u8) 1 w (slAddr (c - 2 - 2) 2 1 (slAddr (c - 2) 2 1 (slAddr c 2 1 a))) r5 := by have := s4.tail (l := 2) c4; simpa using this
    have c5 : r5.length ≤ c - 2 - 2 - 2 := by simp only [List.length_cons] at c4; omega
    refine H15.set (i := 4) rfl (by simp) ?_; clear H15; intro w16 H16
    refine H16.set (i := 4) rfl (by simp) ?_; clear H16; intro w17 H17
    refine H17.ldS (i := 0) rfl rfl ?_
    refine ⟨_, _, _, H17.cells (i := 4) rfl, ?_⟩
    refine H17.alloc ?_; clear H17; intro b4 w18 H18
    refine H18.appEB encR_ok (i := 3) (j := 5) rfl [⟨v / 16, 256 * e + f, 256 * g + i⟩] rfl sl_Ty_S_api_Range rfl (by simp; omega) (by simp; omega) ?_; intro x_a1 x_c1 w19 H19
    refine H19.set (i := 0) rfl (by simp) ?_; clear H19; intro w20 H20
    refine kW_i64 (by omega) ?_
    refine ⟨⟨k, _, _, r5, L ++ [⟨v / 16, 256 * e + f, 256 * g + i⟩], x_a1, x_c1, by omega, by omega, s5, c5, hb5, by simp; omega, ?_, (H20.sub (fun i => i) ?_ (fun _ _ _ _ h => h)).imp fun _ h => by simp_all⟩, by omega⟩
    ·rw [hrd2, hstep]; simp [rdX, Function.comp_def]
    ·rintro (_ | _ | _ | _ | _) r h <;> first | exact h | cases h
   ·rw [if_neg (by omega)] at hstep
    refine H13.ldS (i := 0) rfl rfl ?_
    refine ⟨_, _, _, H13.cells (i := 4) rfl, ?_⟩
    refine H13.alloc ?_; clear H13; intro b5 w21 H21
    refine H21.appEB encR_ok (i := 3) (j := 5) rfl [⟨v / 16, 0, 0⟩] rfl sl_Ty_S_api_Range rfl (by simp; omega) (by simp; omega) ?_; intro x_a3 x_c3 w22 H22
    refine H22.set (i := 0) rfl (by simp) ?_; clear H22; intro w23 H23
    refine kW_i64 (by omega) ?_
    refine ⟨⟨k, _, _, r3, L ++ [⟨v / 16, 0, 0⟩], x_a3, x_c3, by omega, by omega, s3, c3, hb3, by simp; omega, ?_, (H23.sub (fun i => i) ?_ (fun _ _ _ _ h => h)).imp fun _ h => by simp_all⟩, by omega⟩
    ·rw [hrd2, hstep]; simp [Function.comp_def]
    ·rintro (_ | _ | _ | _ | _) r h <;> first | exact h | cases h
  ·obtain rfl : k = 0 := by omega
   have hrd3 : rdS (x :: y :: (m : Int) :: r2) = some ⟨256 * x + y, L⟩ := by rw [hrd]; simp [rdR]
   rw [hrd3] at e0
   simp only at e0
   obtain ⟨zs, hzs⟩ : ∃ zs, zs = x :: y :: (m : Int) :: r2 := ⟨_, rfl⟩
   rw [← hzs] at e0 hb hl hc H10
   refine ⟨_, _, _, _, H10.cells (i := 0) rfl, ?_⟩
   have hse := H10.slE encR_ok (i := 3) rfl
   have hmc := H10.capE (i := 3) rfl
   refine (status_Encode_ct hse (by omega)).mono ?_
   have bad : ∀ {w' : World} {R : List Res} {P : World → Prop} {A0 : Nat → Prop} {u e : Int} {ma : Option Addr} {ml mc : Nat}, ¬ (okS bits ⟨256 * x + y, L⟩ ∧ bytesS ⟨256 * x + y, L⟩ = zs) → St A0 [] w w' (.blk b Ty_api_Status [.int .i64 u, .slice ma ml mc] :: .blk b1 Ty_api_Errno [.int .i64 e] :: R) P →
    sxStore w' ⟨b, 0, none⟩ 0 [(.int .i64 (0 : Int)), (.slice none 0 0)] fun w25 => kSet w25 ⟨b1, 0, none⟩ (.int .i64 (4 : Int)) fun w26 => L_status_Decode b b1 (fun v w' => RetS w (decS bits zs).1 (decS bits zs).2 (.returned v) w') .returning w26 := fun h H => by
    rw [e0, if_neg h]
    refine H.store (i := 0) rfl (by rfl) (by rfl) fun w25 H25 => ?_
    refine H25.set (i := 1) rfl (by simp) fun w26 H26 => ?_
    exact leave_ret (s := .zero) H26 rfl rfl ⟨Nat.zero_le _, ((St.nil w).pass H26.fin.below).imp fun _ _ => .inl rfl⟩
   rw [← hzs]
   by_cases hok : okS bits ⟨256 * x + y, L⟩
   ·have ee : encS bits ⟨256 * x + y, L⟩ = (bytesS ⟨256 * x + y, L⟩, 0) := if_pos hok
    rw [ee]
    rintro _ w24 ⟨ra, rc, hrc, rfl, K⟩; have H24 := H10.callF K; clear K H10 H10'
    refine .inl ⟨_, _, _, _, rfl, ?_⟩
    refine bsplit_nd (fun c4 => absurd rfl c4) (fun _ => ?_)
    refine (bytes_Equal_ct H24.get.1 H24.get.2 (bytes_S _) hb).mono ?_
    rintro _ w29 ⟨rfl, hb29⟩; have H29 := H24.pass hb29; clear H24
    refine .inl ⟨_, rfl, ?_⟩
    refine bsplit_nd (fun c3 => ?_) (fun c3 => ?_)
    ·exact bad (fun h => c3 h.2) H29
    ·rw [e0, if_pos ⟨hok, c3⟩]
     refine ⟨_, _, _, _, H29.cells (i := 0) rfl, ?_⟩
     refine H29.store (i := 0) rfl (by rfl) (by rfl) fun w32 H32 => ?_
     refine H32.set (i := 1) rfl (by simp) fun w33 H33 => ?_
     exact leave_ret (s := ⟨256 * x + y, L⟩) H33 rfl rfl ⟨hmc, (H33.freshRow (i := 3) rfl).imp fun _ h => els_sl encR_ok h⟩
   ·have ee : encS bits ⟨256 * x + y, L⟩ = ([], 1) := if_neg hok
    rw [ee]
    rintro _ w24 ⟨ra, rc, hrc, rfl, K⟩; have H24 := H10.callF K; clear K H10 H10'
    refine .inl ⟨_, _, _, _, rfl, ?_⟩
    refine bsplit_nd (fun _ => ?_) (fun c4 => by cases c4)
    exact bad (fun h => hok h.1) H24
end
end Go.Proofs.YtmbppohkadmjgaaGreat
namespace Go.Proofs.YtmbppohkadmjgaaGreat
open Go.Sx Go.RowKit
section
variable {bits u sp : Int} {l_a : Option Addr} {l : List Rg} {l_c : Nat} {w : World}
theorem status_Fit_ct (hs : SlR (CE encR) 3 w l_a l) (hl : l.length ≤ 140737488355328) :
 Calls Tryz.prog N_status_Fit #[(.int .i64 bits), (.agg #[.int .i64 u, .slice l_a l.length l_c]), (.int .i64 sp)] w (RetS w (fitR bits ⟨u, l⟩ sp).1 (fitR bits ⟨u, l⟩ sp).2) := by
 apply F_status_Fit_ok
 unfold F_status_Fit
 have H := St.nil w
 refine H.alloc ?_; clear H; intro b w1 H1
 refine H1.alloc ?_; clear H1; intro b1 w2 H2
 refine ⟨_, _, _, _, H2.cells (i := 0) rfl, ?_⟩
 refine (status_Valid_ct (hs.belowE H2.below) hl).mono ?_
 rintro _ w3 ⟨rfl, hb3⟩; have H3 := H2.pass hb3; clear H2
 refine ⟨_, rfl, ?_⟩
 refine bsplit_nd (fun c5 => ?_) (fun c5 => ?_)
 ·have e0 : fitR bits ⟨u, l⟩ sp = (.zero, 1) := if_pos c5
  rw [e0]
  refine H3.store (i := 1) rfl (by rfl) (by rfl) ?_; clear H3; intro w4 H4
  refine ⟨_, _, _, _, H4.cells (i := 1) rfl, ?_⟩
  exact RetS.zero H4.fin.below _
 have hll : l.length ≤ 64 := c5.2.2.1
 refine kLet_in ?_
 refine bsplit_dec (fun c4 => ?_) (fun c4 => ?_)
 ·have e0 : fitR bits ⟨u, l⟩ sp = (.zero, 15) := by unfold fitR; rw [if_neg (not_not_intro c5), if_pos c4]
  rw [e0]
  refine H3.store (i := 1) rfl (by rfl) (by rfl) ?_; clear H3; intro w5 H5
  refine ⟨_, _, _, _, H5.cells (i := 1) rfl, ?_⟩
  exact RetS.zero H5.fin.below _
 have e0 : fitR bits ⟨u, l⟩ sp = (fitS sp u l 0 3 0 none l, 0) := by unfold fitR; rw [if_neg (not_not_intro c5), if_neg c4]
 rw [e0]
 refine H3.ldS (i := 0) rfl rfl ?_
 refine (clone_ranges (hs.belowE H3.below) (by omega)).mono ?_
 rintro _ w6 ⟨ra, rc, rfl, K⟩; have H6 := H3.callR K; clear H3 K
 refine ⟨_, _, _, rfl, ?_⟩
 have hrc := H6.capE (i := 2) rfl
 refine H6.set (i := 0) rfl (by simp) ?_; clear H6; intro w7 H7
 refine H7.ldS (i := 0) rfl rfl ?_
 refine ⟨fun used unit x1 => ((l.length - x1).toNat, fun w8 => ∃ (k un : Nat), x1 = k ∧ k ≤ l.length ∧ unit = un ∧ un ≤ k ∧ (3 ≤ used ∧ used ≤ 3 + 6 * k) ∧ fitS sp u l 0 3 0 none l = fitS sp u l k used un (prevR l k) (l.drop k) ∧
  FreshR w w8 [.blk b Ty_api_Status [(.int .i64 u), (.slice ra l.length rc)], .blk b1 Ty_api_Status [(.int .i64 (0 : Int)), (.slice none 0 0)], .els encR Ty_api_Range 3 ra rc l]), ⟨0, 0, rfl, by omega, rfl, by omega, by omega, rfl, H7⟩, ?_⟩
 clear H7
 rintro _ used unit x1 w8 ⟨k, un, rfl, hk, rfl, hun, hus, hI, H8⟩
 refine bsplit_dec (fun c3 => ?_) (fun c3 => ?_)
 ·have hlt : k < l.length := by omega
  rw [fit_step _ _ _ _ _ _ hlt] at hI
  have hz := szR_pos l[k]
  refine ixE (H8.slE encR_ok (i := 2) rfl) k rfl hlt fun b2 r hr hb2 => ?_
  obtain rfl : l[k] = r := by rw [List.getElem?_eq_getElem hlt] at hr; injection hr
  refine ⟨_, _, _, hb2, ?_⟩
  refine H8.alloc ?_; clear H8; intro b3 w9 H9
  refine H9.store (i := 3) rfl (by rfl) (by rfl) ?_; clear H9; intro w10 H10
  refine ⟨fun unit1 w12 => unit1 = (unitOf k (prevR l k) un l[k] : Nat) ∧ FreshR w w12 [.blk b Ty_api_Status [(.int .i64 u), (.slice ra l.length rc)], .blk b1 Ty_api_Status [(.int .i64 (0 : Int)), (.slice none 0 0)], .els encR Ty_api_Range 3 ra rc l, .blk b3 Ty_api_Range (encR l[k])], ?_, ?_⟩
  ·rintro _ unit1 w12 ⟨rfl, H12⟩
   obtain ⟨un2, hun2⟩ : ∃ un2, un2 = unitOf k (prevR l k) un l[k] := ⟨_, rfl⟩
   have hun2k : un2 ≤ k := by
    rw [hun2]; unfold unitOf
    split
    ·exact hun
    ·split <;> omega
   rw [← hun2] at hI ⊢
   refine ⟨_, _, _, H12.cells (i := 3) rfl, ?_⟩
   refine status_size_ct.mono ?_
   rintro _ w13 ⟨rfl, hb13⟩; have H13 := H12.pass hb13; clear H12
   refine ⟨_, rfl, ?_⟩
   refine kW_i64 (by omega) ?_
   refine bsplit_dec (fun c2 => ?_) (fun c2 => ?_)
   ·rw [if_pos c2] at hI
    rw [hI]
    refine H13.drew ?_; clear H13; intro w14 H14
    refine ⟨fun x => x < w14.heap.size ∧ x ∉ [b], ?_⟩
    have f14 := Fr.refl [b] w14
    refine H14.ld (i := 3) rfl rfl ?_
    refine H14.ldS (i := 0) rfl rfl ?_
    refine ⟨⟨by omega, by omega⟩, ?_⟩
    refine H14.setF (i := 0) rfl (by simp) ?_; intro w15 g15 H15
    have f15 := f14.tr g15 (by simp)
    refine ⟨f15.keeps, ?_⟩
    refine H15.set (i := 0) rfl (by simp) ?_; intro w16 H16
    refine ⟨_, _, _, _, H16.cells (i := 0) rfl, ?_⟩
    refine H16.store (i := 1) rfl (by rfl) (by rfl) ?_; clear H16; intro w17 H17
    refine ⟨_, _, _, _, H17.cells (i := 1) rfl, ?_⟩
    have el : (un2 : Int).toNat - 0 = (l.take un2).length := by simp; omega
    rw [el]
    refine ⟨_, _, ?_, rfl, (H17.freshRow (i := 2) rfl).imp fun _ h => (els_sl encR_ok h).preE _ _⟩
    simp; omega
   ·rw [if_neg c2] at hI
    refine kW_i64 (by omega) ?_
    exact ⟨⟨k + 1, un2, by omega, by omega, rfl, by omega, by omega, hI, H13.sub (fun i => i) (by rintro (_ | _ | _ | _) r h <;> first | exact h | cases h) (fun _ _ _ _ h => h)⟩, by dsimp only; omega⟩
  ·refine H10.drew ?_; clear H10; intro w11 H11
   refine bsplit_dec (fun c1 => ?_) (fun c1 => ?_)
   ·obtain ⟨j, rfl⟩ : ∃ j, k = j + 1 := ⟨k - 1, by omega⟩
    have hj : j < l.length := by omega
    have hu : unitOf (j + 1) (prevR l (j + 1)) un l[j + 1] = if l[j + 1].sn ≠ l[j].sn then j + 1 else un := by simp only [unitOf, prevR, List.getElem?_eq_getElem hj]
    refine H11.ld (i := 3) rfl rfl ?_
    refine H11.ldS (i := 0) rfl rfl ?_
    refine kW_i64 (by omega) ?_
    refine ixE (H11.slE encR_ok (i := 2) rfl) j (by omega) hj fun b4 q hq hb4 => ?_
    obtain rfl : l[j] = q := by rw [List.getElem?_eq_getElem hj] at hq; injection hq
    refine ld_at hb4 0 rfl ?_
    refine bsplit_nd (fun c => ?_) (fun c => ?_)
    ·exact ⟨by rw [hu, if_pos c], H11⟩
    ·exact ⟨by rw [hu, if_neg (not_not_intro c)], H11⟩
   ·obtain rfl : k = 0 := by omega
    exact ⟨rfl, H11⟩
 ·obtain rfl : k = l.length := by omega
  have e1 : fitS sp u l 0 3 0 none l = ⟨u, l⟩ := by rw [hI, List.drop_length]; rfl
  rw [e1]
  refine ⟨_, _, _, _, H8.cells (i := 0) rfl, ?_⟩
  refine H8.store (i := 1) rfl (by rfl) (by rfl) ?_; clear H8; intro w18 H18
  refine ⟨_, _, _, _, H18.cells (i := 1) rfl, ?_⟩
  exact ⟨_, _, hrc, rfl, (H18.freshRow (i := 2) rfl).imp fun _ h => els_sl encR_ok h⟩
end
end Go.Proofs.YtmbppohkadmjgaaGreat
namespace Go.Sx
end Go.Sx
namespace Go.Proofs.YtmbppohkadmjgaaGreat
open Go.Sx Go.RowKit
section
variable {bits : Int} {b_a : Option Addr} {bs : List Int} {b_c : Nat} {w : World}
end
section
variable {s t : Stt} {a_a b_a : Option Addr} {a_c b_c : Nat} {w : World}
end
end Go.Proofs.YtmbppohkadmjgaaGreat
