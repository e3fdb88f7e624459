import Derived.Test.YtmhggobilcmdmaaForms
import Derived.Test.YtmhggobilcmdmaaTys
import Derived.Test.YtmhggobilcmdmaaSt
import Derived.Test.YtmhggobilcmdmaaBt
import Derived.Test.YtmhggobilcmdmaaEl
import Derived.Test.YtmhggobilcmdmaaEq3
import Derived.Test.YtmhggobilcmdmaaHp
import Derived.Test.YtmhggobilcmdmaaEl2
import Derived.Test.YtmhggobilcmdmaaDice
/- Chapter 18, plain: pieces and ranges as lists of numbers; no program in sight. -/
namespace Go.Sx
structure Pc where
  sn : Int
  part : Int
  poll : Int
  off : Int
  data : List Int

def Pc.zero : Pc := ⟨0, 0, 0, 0, []⟩
def begins (part : Int) : Bool := decide (part = 0 ∨ part = 1)
def ends (part : Int) : Bool := decide (part = 0 ∨ part = 2)
def headN (part : Int) : Nat := if part = 0 ∨ part = 1 then 2 else 4
def bitsOk (b : Int) : Prop := 5 ≤ b ∧ b ≤ 9
instance (b : Int) : Decidable (bitsOk b) := inferInstanceAs (Decidable (_ ∧ _))
def pOk (b sn part poll off : Int) (n : Nat) : Prop :=
  bitsOk b ∧ (0 ≤ sn ∧ sn < 2 ^ b.toNat) ∧ (0 ≤ part ∧ part ≤ 3) ∧ (0 ≤ poll ∧ poll ≤ 1) ∧ ((part = 0 ∨ part = 1) ↔ off = 0) ∧ (0 ≤ off ∧ off ≤ 2054) ∧ 1 ≤ n ∧ off + n ≤ 2054
instance (b sn part poll off : Int) (n : Nat) : Decidable (pOk b sn part poll off n) := inferInstanceAs (Decidable (_ ∧ _))
def Pc.ok (b : Int) (p : Pc) : Prop := pOk b p.sn p.part p.poll p.off p.data.length
instance (b : Int) (p : Pc) : Decidable (p.ok b) := inferInstanceAs (Decidable (pOk _ _ _ _ _ _))
theorem pow_bits {b : Int} (h : bitsOk b) : ((2 : Int) ^ b.toNat = 32 ∨ (2 : Int) ^ b.toNat = 64 ∨ (2 : Int) ^ b.toNat = 128 ∨ (2 : Int) ^ b.toNat = 256 ∨ (2 : Int) ^ b.toNat = 512) := by
  obtain ⟨h1, h2⟩ := h
  rcases (show b = 5 ∨ b = 6 ∨ b = 7 ∨ b = 8 ∨ b = 9 by omega) with rfl | rfl | rfl | rfl | rfl <;> decide

/-- the number of the first two bytes -/
def Pc.first (p : Pc) : Int := 32768 + 16384 * p.poll + 4096 * p.part + p.sn
def Pc.bytes (p : Pc) : List Int := [p.first / 256, p.first % 256] ++ (if p.part = 0 ∨ p.part = 1 then [] else [p.off / 256, p.off % 256]) ++ p.data
theorem Pc.first_range {b : Int} {p : Pc} (h : p.ok b) : 32768 ≤ p.first ∧ p.first < 65536 := by
  obtain ⟨hb, h1, h2, h3, _⟩ := h
  have := pow_bits hb
  unfold Pc.first
  omega
def encP (b : Int) (p : Pc) : List Int × Int := if p.ok b then (p.bytes, 0) else ([], 1)

/-- what the bytes say, were they valid -/
def rawP (bs : List Int) : Pc :=
  let f := 256 * bs.getD 0 0 + bs.getD 1 0
  let part := f / 4096 % 4
  ⟨f % 4096, part, f / 16384 % 2, if part = 0 ∨ part = 1 then 0 else 256 * bs.getD 2 0 + bs.getD 3 0, bs.drop (headN part)⟩
def decP (b : Int) (bs : List Int) : Pc × Int :=
  if ¬ bitsOk b then (.zero, 3) else if bs.length < 2 then (.zero, 5) else if bs.length ≤ headN (rawP bs).part then (.zero, 5)
  else if bs.getD 0 0 < 128 ∨ ¬ (rawP bs).ok b then (.zero, 4) else (rawP bs, 0)

def partOf (first last : Bool) : Int := if first then (if last then 0 else 1) else (if last then 2 else 3)
def cutP (b : Int) (p : Pc) (size : Int) : Pc × Pc × Int :=
  if ¬ p.ok b then (.zero, .zero, 1) else if size < headN p.part + 1 then (.zero, .zero, 15)
  else if headN p.part + p.data.length ≤ size then (p, .zero, 0)
  else (⟨p.sn, partOf (begins p.part) false, p.poll, p.off, p.data.take (size - headN p.part).toNat⟩,
        ⟨p.sn, partOf false (ends p.part), p.poll, p.off + (size - headN p.part), p.data.drop (size - headN p.part).toNat⟩, 0)
end Go.Sx
/- Chapter 18, plain: ranges of a segment; no program in sight. -/
namespace Go.Sx
structure Rg where
  sn : Int
  f : Int
  t : Int
deriving DecidableEq
/-- ranges in order, apart from each other, none empty -/
def normB (prev : Int) : List Rg → Bool
  | [] => true
  | r :: l => decide (prev < r.f ∧ r.f < r.t) && normB r.t l
theorem normB_drop (p : Int) (l : List Rg) (k : Nat) (h : k < l.length) : normB p (l.drop k) = (decide (p < l[k].f ∧ l[k].f < l[k].t) && normB l[k].t (l.drop (k + 1))) := by
  rw [List.drop_eq_getElem_cons h]; rfl
def prevT (l : List Rg) : Nat → Int
  | 0 => -1
  | k + 1 => (l[k]?.map (·.t)).getD (-1)
theorem prevT_succ {l : List Rg} {k : Nat} (h : k < l.length) : prevT l (k + 1) = l[k].t := by
  simp [prevT, List.getElem?_eq_getElem h]
/-- the ranges with one more, joined where they touch: all of one number -/
def unionS (sn : Int) : List Rg → Int → Int → List Rg
  | [], f, t => [⟨sn, f, t⟩]
  | x :: l, f, t => if x.t < f then ⟨sn, x.f, x.t⟩ :: unionS sn l f t else if x.f > t then ⟨sn, f, t⟩ :: (x :: l).map fun y => ⟨sn, y.f, y.t⟩ else unionS sn l (if x.f < f then x.f else f) (if x.t > t then x.t else t)
/-- what lies between the ranges, from at on -/
def gapsS (sn : Int) : List Rg → Int → Int → List Rg
  | [], at_, len => if at_ < len then [⟨sn, at_, len⟩] else []
  | x :: l, at_, len => if x.f > at_ then ⟨sn, at_, x.f⟩ :: gapsS sn l x.t len else gapsS sn l x.t len
def covB (k : Int) (l : List Rg) : Bool := l.any fun r => decide (r.f ≤ k ∧ k < r.t)
theorem covB_drop (k : Int) (l : List Rg) (i : Nat) (h : i < l.length) : covB k (l.drop i) = (decide (l[i].f ≤ k ∧ k < l[i].t) || covB k (l.drop (i + 1))) := by
  rw [List.drop_eq_getElem_cons h]; rfl
/-- .. without the end -/
def gapsA (sn : Int) : List Rg → Int → List Rg
  | [], _ => []
  | x :: l, at_ => if x.f > at_ then ⟨sn, at_, x.f⟩ :: gapsA sn l x.t else gapsA sn l x.t
theorem gapsA_end (sn len : Int) : ∀ (l : List Rg) (at_ : Int), gapsA sn (l ++ [⟨0, len, len⟩]) at_ = gapsS sn l at_ len
  | [], at_ => by simp [gapsA, gapsS]
  | x :: l, at_ => by
    simp only [List.cons_append, gapsA, gapsS, gapsA_end sn len l]
theorem gapsA_drop (sn : Int) (l : List Rg) (k : Nat) (at_ : Int) (h : k < l.length) : gapsA sn (l.drop k) at_ = if l[k].f > at_ then ⟨sn, at_, l[k].f⟩ :: gapsA sn (l.drop (k + 1)) l[k].t else gapsA sn (l.drop (k + 1)) l[k].t := by
  rw [List.drop_eq_getElem_cons h]; rfl
theorem gapsS_drop (sn len : Int) (l : List Rg) (k : Nat) (at_ : Int) (h : k < l.length) : gapsS sn (l.drop k) at_ len = if l[k].f > at_ then ⟨sn, at_, l[k].f⟩ :: gapsS sn (l.drop (k + 1)) l[k].t len else gapsS sn (l.drop (k + 1)) l[k].t len := by
  rw [List.drop_eq_getElem_cons h]; rfl
def sn_ (sn : Int) (y : Rg) : Rg := ⟨sn, y.f, y.t⟩
theorem unionS_drop (sn : Int) (l : List Rg) (k : Nat) (f t : Int) (h : k < l.length) : unionS sn (l.drop k) f t = if l[k].t < f then sn_ sn l[k] :: unionS sn (l.drop (k + 1)) f t else if l[k].f > t then ⟨sn, f, t⟩ :: (sn_ sn l[k] :: (l.drop (k + 1)).map (sn_ sn)) else unionS sn (l.drop (k + 1)) (if l[k].f < f then l[k].f else f) (if l[k].t > t then l[k].t else t) := by
  rw [List.drop_eq_getElem_cons h]; rfl
def unionR (l : List Rg) (r : Rg) : List Rg × Int := if normB (-1) l = false ∨ normB (-1) [r] = false then ([], 4) else (unionS r.sn l r.f r.t, 0)
/-- what a loop over the ranges keeps -/
def UnionI (sn : Int) (l : List Rg) (f0 t0 : Int) (k : Nat) (before behind : List Rg) (f t : Int) : Prop :=
  f < t ∧ before.length + behind.length ≤ k ∧ -1 ≤ prevT l k ∧ normB (prevT l k) (l.drop k) = true ∧
  ((behind = [] ∧ unionS sn l f0 t0 = before ++ unionS sn (l.drop k) f t) ∨ (unionS sn l f0 t0 = before ++ ⟨sn, f, t⟩ :: (behind ++ (l.drop k).map (sn_ sn)) ∧ t < prevT l k))
theorem UnionI.step {sn : Int} {l : List Rg} {f0 t0 : Int} {k : Nat} {before behind : List Rg} {f t : Int} (h : UnionI sn l f0 t0 k before behind f t) (hlt : k < l.length) :
    (l[k].t < f → UnionI sn l f0 t0 (k + 1) (before ++ [sn_ sn l[k]]) behind f t) ∧ (¬ l[k].t < f → l[k].f > t → UnionI sn l f0 t0 (k + 1) before (behind ++ [sn_ sn l[k]]) f t) ∧
    (¬ l[k].t < f → ¬ l[k].f > t → UnionI sn l f0 t0 (k + 1) before behind (if l[k].f < f then l[k].f else f) (if l[k].t > t then l[k].t else t)) := by
  obtain ⟨h1, h2, h3, h4, h5⟩ := h
  have hp := prevT_succ hlt
  rw [normB_drop _ _ _ hlt, Bool.and_eq_true, decide_eq_true_iff] at h4
  obtain ⟨⟨n1, n2⟩, n3⟩ := h4
  have hm : (l.drop k).map (sn_ sn) = sn_ sn l[k] :: (l.drop (k + 1)).map (sn_ sn) := by rw [List.drop_eq_getElem_cons hlt]; rfl
  rw [unionS_drop _ _ _ _ _ hlt, hm] at h5
  refine ⟨fun c => ⟨h1, by simp; omega, by omega, by rw [hp]; exact n3, ?_⟩, fun c d => ⟨h1, by simp; omega, by omega, by rw [hp]; exact n3, ?_⟩, fun c d => ⟨by split <;> split <;> omega, by omega, by omega, by rw [hp]; exact n3, ?_⟩⟩
  · rcases h5 with ⟨rfl, h5⟩ | ⟨h5, h6⟩
    · rw [if_pos c] at h5
      left; exact ⟨rfl, by rw [h5]; simp⟩
    · omega
  · right
    rw [hp]
    rcases h5 with ⟨rfl, h5⟩ | ⟨h5, h6⟩
    · rw [if_neg c, if_pos d] at h5
      exact ⟨by rw [h5]; simp, by omega⟩
    · exact ⟨by rw [h5]; simp, by omega⟩
  · rcases h5 with ⟨rfl, h5⟩ | ⟨h5, h6⟩
    · rw [if_neg c, if_neg d] at h5
      left; exact ⟨rfl, h5⟩
    · omega
theorem UnionI.done {sn : Int} {l : List Rg} {f0 t0 : Int} {before behind : List Rg} {f t : Int} (h : UnionI sn l f0 t0 l.length before behind f t) : unionS sn l f0 t0 = before ++ ⟨sn, f, t⟩ :: behind := by
  obtain ⟨h1, h2, h3, h4, h5⟩ := h
  rw [List.drop_length] at h5
  rcases h5 with ⟨rfl, h5⟩ | ⟨h5, h6⟩
  · rw [h5]; rfl
  · rw [h5]; simp
theorem UnionI.zero {sn : Int} {l : List Rg} {f0 t0 : Int} (h : f0 < t0) (hn : normB (-1) l = true) : UnionI sn l f0 t0 0 [] [] f0 t0 :=
  ⟨h, by simp, Int.le_refl _, by simpa [prevT] using hn, .inl ⟨rfl, by simp⟩⟩
def gapR (l : List Rg) (sn len : Int) : List Rg × Int :=
  if normB (-1) l = false then ([], 4) else if len < 0 ∨ (0 < l.length ∧ len < prevT l l.length) then ([], 3) else (gapsS sn l 0 len, 0)
end Go.Sx
namespace Go.Sx
theorem union_skip {sn : Int} {l : List Rg} {k : Nat} {f t : Int} (hlt : k < l.length) (h : l[k].t < f) : unionS sn (l.drop k) f t = sn_ sn l[k] :: unionS sn (l.drop (k + 1)) f t := by
  rw [unionS_drop _ _ _ _ _ hlt, if_pos h]
theorem union_take {sn : Int} {l : List Rg} {k : Nat} {f t : Int} (hlt : k < l.length) (h : ¬ l[k].t < f) (h2 : l[k].f ≤ t) : unionS sn (l.drop k) f t = unionS sn (l.drop (k + 1)) (if l[k].f < f then l[k].f else f) (if l[k].t > t then l[k].t else t) := by
  rw [unionS_drop _ _ _ _ _ hlt, if_neg h, if_neg (by omega)]
theorem union_stop {sn : Int} {l : List Rg} {k : Nat} {f t : Int} (h : ∀ hlt : k < l.length, ¬ l[k].t < f ∧ l[k].f > t) : unionS sn (l.drop k) f t = ⟨sn, f, t⟩ :: (l.drop k).map (sn_ sn) := by
  rcases Nat.lt_or_ge k l.length with hlt | hge
  · obtain ⟨h1, h2⟩ := h hlt
    rw [unionS_drop _ _ _ _ _ hlt, if_neg h1, if_pos h2, List.drop_eq_getElem_cons hlt]; rfl
  · rw [List.drop_eq_nil_of_le hge]; rfl
theorem norm_at {l : List Rg} (h : normB (-1) l = true) : ∀ k (hk : k < l.length), l[k].f < l[k].t ∧ ∀ hk2 : k + 1 < l.length, l[k].t < l[k + 1].f := by
  have key : ∀ (l : List Rg) (p : Int), normB p l = true → ∀ k (hk : k < l.length), l[k].f < l[k].t ∧ ∀ hk2 : k + 1 < l.length, l[k].t < l[k + 1].f := by
    intro l
    induction l with
    | nil => intro p _ k hk; simp at hk
    | cons x l ih =>
      intro p hn k hk
      simp only [normB, Bool.and_eq_true, decide_eq_true_iff] at hn
      cases k with
      | zero =>
        refine ⟨hn.1.2, fun hk2 => ?_⟩
        cases l with
        | nil => simp at hk2
        | cons y l =>
          have := hn.2
          simp only [normB, Bool.and_eq_true, decide_eq_true_iff] at this
          exact this.1.1
      | succ k =>
        have := ih _ hn.2 k (by simpa using hk)
        exact ⟨this.1, fun hk2 => this.2 (by simpa using hk2)⟩
  exact key l _ h
end Go.Sx
namespace Go.Sx
def lastT (p : Int) : List Rg → Int
  | [] => p
  | x :: l => lastT x.t l
theorem lastT_snoc (x : Rg) : ∀ (l : List Rg) (p : Int), lastT p (l ++ [x]) = x.t
  | [], _ => rfl
  | y :: l, _ => lastT_snoc x l y.t
theorem normB_snoc (x : Rg) : ∀ (l : List Rg) (p : Int), normB p l = true → lastT p l < x.f → x.f < x.t → normB p (l ++ [x]) = true
  | [], p, _, h, h2 => by simp only [lastT] at h; simp [normB, h, h2]
  | y :: l, p, hn, h, h2 => by
    simp only [normB, List.cons_append, Bool.and_eq_true] at hn ⊢
    exact ⟨hn.1, normB_snoc x l y.t hn.2 h h2⟩
end Go.Sx
namespace Go.Proofs.Ytmhggobilcmdmaa
open Go.Sx Go.RowKit

theorem counter_Bits_ct {bits : Int} {w : World} :
    Calls Try.prog N_counter_Bits #[(.int .i64 bits)] w fun e w' => e = .returned (.bool (decide (bitsOk bits))) ∧ Below w.heap.size w w' := by
  apply F_counter_Bits_ok
  unfold F_counter_Bits
  have H := St.nil w
  refine bsplit_dec (fun c => ?_) (fun c => ?_) --  (decide (bits ≥ (5 : Int)))
  · refine kLet_in ?_
    exact ⟨retD (by unfold bitsOk; omega), H.below⟩
  · exact ⟨retF (by unfold bitsOk; omega), H.below⟩
theorem ref15_Bits_ct {n : Int} {w : World} :
    Calls Try.prog N_ref15_Bits #[(.int .i64 n)] w fun e w' => e = .returned (.bool (decide (bitsOk n))) ∧ Below w.heap.size w w' := by
  apply F_ref15_Bits_ok
  unfold F_ref15_Bits
  have H := St.nil w
  refine bsplit_dec (fun c => ?_) (fun c => ?_) --  (decide (n ≥ (5 : Int)))
  · refine kLet_in ?_
    exact ⟨retD (by unfold bitsOk; omega), H.below⟩
  · exact ⟨retF (by unfold bitsOk; omega), H.below⟩
theorem segment_begins_ct {part : Int} {w : World} :
    Calls Try.prog N_segment_begins #[(.int .i64 part)] w fun e w' => e = .returned (.bool (begins part)) ∧ Below w.heap.size w w' := by
  apply F_segment_begins_ok
  unfold F_segment_begins begins
  have H := St.nil w
  refine bsplit_dec (fun c => ?_) (fun c => ?_) --  (decide (part = (0 : Int)))
  · exact ⟨retT (by omega), H.below⟩
  · refine kLet_in ?_
    exact ⟨retD (by omega), H.below⟩
theorem segment_Ends_ct {part : Int} {w : World} :
    Calls Try.prog N_segment_Ends #[(.int .i64 part)] w fun e w' => e = .returned (.bool (ends part)) ∧ Below w.heap.size w w' := by
  apply F_segment_Ends_ok
  unfold F_segment_Ends ends
  have H := St.nil w
  refine bsplit_dec (fun c => ?_) (fun c => ?_) --  (decide (part = (0 : Int)))
  · exact ⟨retT (by omega), H.below⟩
  · refine kLet_in ?_
    exact ⟨retD (by omega), H.below⟩
theorem segment_head_ct {part : Int} {w : World} :
    Calls Try.prog N_segment_head #[(.int .i64 part)] w fun e w' => e = .returned (.int .i64 (headN part : Nat)) ∧ Below w.heap.size w w' := by
  apply F_segment_head_ok
  unfold F_segment_head
  have H := St.nil w
  refine segment_begins_ct.mono ?_ -- (.int .i64 part)
  rintro _ w1 ⟨rfl, hb1⟩; have H1 := H.pass hb1; clear H
  refine ⟨_, rfl, ?_⟩
  unfold headN begins
  refine bsplit_dec (fun c => ?_) (fun c => ?_) --  r
  · exact ⟨by rw [if_pos c]; rfl, H1.below⟩ --! (.int .i64 (2 : Int))
  · exact ⟨by rw [if_neg c]; rfl, H1.below⟩ --! (.int .i64 (4 : Int))
theorem segment_Part_ct {first : Bool} {last : Bool} {w : World} :
    Calls Try.prog N_segment_Part #[(.bool first), (.bool last)] w fun e w' => e = .returned (.int .i64 (partOf first last)) ∧ Below w.heap.size w w' := by
  apply F_segment_Part_ok
  unfold F_segment_Part
  refine ⟨fun x w1 => w1 = w ∧ x = (first && last), ?_, ?_⟩ --!
  · rintro _ x w1 ⟨rfl, rfl⟩
    have H1 := St.nil w1
    refine bsplit_intro (fun c3 => ?_) (fun c3 => ?_) --  x
    · exact ⟨by simp at c3; simp [partOf, c3], H1.below⟩ --! (.int .i64 (0 : Int))
    · refine bsplit_intro (fun c2 => ?_) (fun c2 => ?_) --  first
      · exact ⟨by subst c2; simp at c3; simp [partOf, c3], H1.below⟩ --! (.int .i64 (1 : Int))
      · refine bsplit_intro (fun c1 => ?_) (fun c1 => ?_) --  last
        · exact ⟨by simp [partOf, c1, c2], H1.below⟩ --! (.int .i64 (2 : Int))
        · exact ⟨by simp [partOf, c1, c2], H1.below⟩ --! (.int .i64 (3 : Int))
  · refine bsplit_intro (fun c => ?_) (fun c => ?_) --  first
    · exact ⟨rfl, by simp [c]⟩ --! J last
    · exact ⟨rfl, by simp [c]⟩ --! J false
theorem ref18_Head_ct {part : Int} {w : World} :
    Calls Try.prog N_ref18_Head #[(.int .i64 part)] w fun e w' => e = .returned (.int .i64 (headN part : Nat)) ∧ Below w.heap.size w w' := by
  apply F_ref18_Head_ok
  unfold F_ref18_Head headN
  have H := St.nil w
  refine bsplit_dec (fun c1 => ?_) (fun c1 => ?_) --  (decide (part = (0 : Int)))
  · exact ⟨by rw [if_pos (by omega)]; rfl, H.below⟩ --! (.int .i64 (2 : Int))
  · refine bsplit_dec (fun c => ?_) (fun c => ?_) --  (decide (part = (1 : Int)))
    · exact ⟨by rw [if_pos (by omega)]; rfl, H.below⟩ --! (.int .i64 (2 : Int))
    · exact ⟨by rw [if_neg (by omega)]; rfl, H.below⟩ --! (.int .i64 (4 : Int))

section
variable {bits : Int} {p_0 : Int} {p_1 : Int} {p_2 : Int} {p_3 : Int} {p_4_a : Option Addr} {p_4_l : Nat} {p_4_c : Nat} {w : World}
theorem segment_Valid_ct (hl : p_4_l ≤ 140737488355328) :
    Calls Try.prog N_segment_Valid #[(.int .i64 bits), (.agg #[.int .i64 p_0, .int .i64 p_1, .int .i64 p_2, .int .i64 p_3, .slice p_4_a p_4_l p_4_c])] w fun e w' => e = .returned (.bool (decide (pOk bits p_0 p_1 p_2 p_3 p_4_l))) ∧ Below w.heap.size w w' := by
  apply F_segment_Valid_ok
  unfold F_segment_Valid

  have H := St.nil w
  refine H.alloc ?_; clear H; intro b w1 H1
  refine ⟨fun x7 w4 => St (fun _ => False) [] w w4 [.blk b Ty_api_Piece [(.int .i64 p_0), (.int .i64 p_1), (.int .i64 p_2), (.int .i64 p_3), (.slice p_4_a p_4_l p_4_c)]] (fun _ => True) ∧ (x7 = true → ¬ pOk bits p_0 p_1 p_2 p_3 p_4_l) ∧ (x7 = false → bitsOk bits ∧ (0 ≤ p_0 ∧ p_0 < 2 ^ bits.toNat) ∧ (0 ≤ p_1 ∧ p_1 ≤ 3) ∧ (0 ≤ p_2 ∧ p_2 ≤ 1)), ?_, ?_⟩ --!
  · rintro _ x7 w4 ⟨H4, hj, hj'⟩
    refine bsplit_intro (fun c10 => ?_) (fun c10 => ?_) --  x7
    · exact ⟨retF (hj c10), H4.below⟩ --! (.bool false)
    · obtain ⟨h1, h2, h3, h4⟩ := hj' c10
      have hiff : (decide (pOk bits p_0 p_1 p_2 p_3 p_4_l)) = decide (((p_1 = 0 ∨ p_1 = 1) ↔ p_3 = 0) ∧ (0 ≤ p_3 ∧ p_3 ≤ 2054) ∧ 1 ≤ p_4_l ∧ p_3 + p_4_l ≤ 2054) := by
        unfold pOk; simp [h1, h2, h3, h4]
      rw [hiff]
      refine ⟨fun  w7 => St (fun _ => False) [] w w7 [.blk b Ty_api_Piece [(.int .i64 p_0), (.int .i64 p_1), (.int .i64 p_2), (.int .i64 p_3), (.slice p_4_a p_4_l p_4_c)]] (fun _ => True) ∧ ((p_1 = 0 ∨ p_1 = 1) ↔ p_3 = 0) ∧ (0 ≤ p_3 ∧ p_3 ≤ 2054), ?_, ?_⟩ --!
      · rintro _  w7 ⟨H7, hj1, hj2⟩
        refine H7.ldS (i := 0) rfl rfl ?_
        refine bsplit_dec (fun c9 => ?_) (fun c9 => ?_) --  (decide ((p_4_l : Int) ≥ (1 : Int)))
        · refine H7.ldS (i := 0) rfl rfl ?_
          refine H7.ld (i := 0) rfl rfl ?_
          refine kW_i64 (by omega) ?_ -- (2054 : Int) - p_3
          refine kLet_in ?_
          exact ⟨retD (by omega), H7.below⟩ --! (.bool (decide ((p_4_l : Int) ≤ ((2054 : Int) - p_3))))
        · exact ⟨retF (by omega), H7.below⟩ --! (.bool false)
      · refine H4.drew ?_; clear H4; intro w5 H5
        refine ⟨(· < w5.heap.size), ?_⟩
        refine H5.ld (i := 0) rfl rfl ?_
        refine ⟨H5.lt (i := 0) rfl rfl, ?_⟩
        refine H5.ld (i := 0) rfl rfl ?_
        refine segment_begins_ct.mono ?_ -- (.int .i64 p_1)
        rintro _ w6 ⟨rfl, hb6⟩; have H6 := H5.pass hb6
        refine ⟨_, rfl, ?_⟩
        refine ⟨hb6.keeps, ?_⟩
        refine bsplit_n (fun c8 => ?_) (fun c8 => ?_) --  (!(r1 == (decide (p_3 = (0 : Int)))))
        · refine ⟨retF (fun h => ?_), H6.below⟩ --! (.bool false)
          unfold begins at c8
          simp only [beq_eq_false_iff_ne, ne_eq, decide_eq_decide] at c8
          exact c8 h.1
        · have c8 : ((p_1 = 0 ∨ p_1 = 1) ↔ p_3 = 0) := by
            unfold begins at c8
            simpa only [beq_iff_eq, decide_eq_decide] using c8
          refine ⟨H5.lt (i := 0) rfl rfl, ?_⟩
          refine H5.ld (i := 0) rfl rfl ?_
          refine bsplit_dec (fun c7 => ?_) (fun c7 => ?_) --  (decide (p_3 < (0 : Int)))
          · exact ⟨retF (by omega), H6.below⟩ --! (.bool false)
          · refine ⟨H5.lt (i := 0) rfl rfl, ?_⟩
            refine H5.ld (i := 0) rfl rfl ?_
            refine bsplit_dec (fun c6 => ?_) (fun c6 => ?_) --  (decide (p_3 > (2054 : Int)))
            · exact ⟨retF (by omega), H6.below⟩ --! (.bool false)
            · exact ⟨H6, c8, by omega⟩ --! J1 
  · refine H1.drew ?_; clear H1; intro w2 H2
    refine ⟨(· < w2.heap.size), ?_⟩
    refine counter_Bits_ct.mono ?_ -- (.int .i64 bits)
    rintro _ w3 ⟨rfl, hb3⟩; have H3 := H2.pass hb3
    refine ⟨_, rfl, ?_⟩
    refine ⟨hb3.keeps, ?_⟩
    refine bsplit_nd (fun c5 => ?_) (fun c5 => ?_) --  (!r)
    · exact ⟨H3, fun _ h => c5 h.1, fun h => by cases h⟩ --! J true
    · have hbn : bits.toNat ≤ 62 ∧ 0 ≤ bits := by unfold bitsOk at c5; omega
      refine ⟨H2.lt (i := 0) rfl rfl, ?_⟩
      refine H2.ld (i := 0) rfl rfl ?_
      refine bsplit_dec (fun c4 => ?_) (fun c4 => ?_) --  (decide (p_0 < (0 : Int)))
      · exact ⟨H3, fun _ h => by have := h.2.1; omega, fun h => by cases h⟩ --! J true
      · refine ⟨H2.lt (i := 0) rfl rfl, ?_⟩
        refine H2.ld (i := 0) rfl rfl ?_
        refine ⟨by omega, ?_⟩
        refine kShl1 (by omega) ?_
        refine bsplit_dec (fun c3 => ?_) (fun c3 => ?_) --  (decide (p_0 ≥ ((1 : Int) * 2 ^ (min bits.toNat (IntKind.bits .i64)))))
        · exact ⟨H3, fun _ h => by have := h.2.1; omega, fun h => by cases h⟩ --! J true
        · refine ⟨H2.lt (i := 0) rfl rfl, ?_⟩
          refine H2.ld (i := 0) rfl rfl ?_
          refine bsplit_dec (fun c2 => ?_) (fun c2 => ?_) --  (decide (p_1 < (0 : Int)))
          · exact ⟨H3, fun _ h => by have := h.2.2.1; omega, fun h => by cases h⟩ --! J true
          · refine ⟨H2.lt (i := 0) rfl rfl, ?_⟩
            refine H2.ld (i := 0) rfl rfl ?_
            refine bsplit_dec (fun c1 => ?_) (fun c1 => ?_) --  (decide (p_1 > (3 : Int)))
            · exact ⟨H3, fun _ h => by have := h.2.2.1; omega, fun h => by cases h⟩ --! J true
            · refine ⟨H2.lt (i := 0) rfl rfl, ?_⟩
              refine H2.ld (i := 0) rfl rfl ?_
              refine bsplit_dec (fun c => ?_) (fun c => ?_) --  (decide (p_2 < (0 : Int)))
              · exact ⟨H3, fun _ h => by have := h.2.2.2.1; omega, fun h => by cases h⟩ --! J true
              · refine ⟨H2.lt (i := 0) rfl rfl, ?_⟩
                refine H2.ld (i := 0) rfl rfl ?_
                refine ⟨H3, fun h h' => by have := h'.2.2.2.1; simp at h; omega, fun h => ⟨c5, by omega, by omega, by simp at h; omega⟩⟩ --! J (decide (p_2 > (1 : Int)))
theorem ref18_Valid_ct (hl : p_4_l ≤ 140737488355328) :
    Calls Try.prog N_ref18_Valid #[(.int .i64 bits), (.agg #[.int .i64 p_0, .int .i64 p_1, .int .i64 p_2, .int .i64 p_3, .slice p_4_a p_4_l p_4_c])] w fun e w' => e = .returned (.bool (decide (pOk bits p_0 p_1 p_2 p_3 p_4_l))) ∧ Below w.heap.size w w' := by
  apply F_ref18_Valid_ok
  unfold F_ref18_Valid

  have H := St.nil w
  refine H.alloc ?_; clear H; intro b w1 H1
  refine ⟨fun x12 w3 => St (fun _ => False) [] w w3 [.blk b Ty_api_Piece [(.int .i64 p_0), (.int .i64 p_1), (.int .i64 p_2), (.int .i64 p_3), (.slice p_4_a p_4_l p_4_c)]] (fun _ => True) ∧ (x12 = true → ¬ pOk bits p_0 p_1 p_2 p_3 p_4_l) ∧ (x12 = false → bitsOk bits ∧ (0 ≤ p_0 ∧ p_0 < 2 ^ bits.toNat) ∧ (0 ≤ p_1 ∧ p_1 ≤ 3) ∧ (0 ≤ p_2 ∧ p_2 ≤ 1) ∧ (0 ≤ p_3 ∧ p_3 ≤ 2054) ∧ 1 ≤ p_4_l ∧ p_3 + p_4_l ≤ 2054), ?_, ?_⟩ --!
  · rintro _ x12 w3 ⟨H3, hj, hj'⟩
    refine bsplit_intro (fun c12 => ?_) (fun c12 => ?_) --  x12
    · exact ⟨retF (hj c12), H3.below⟩ --! (.bool false)
    · obtain ⟨h1, h2, h3, h4, h5, h6⟩ := hj' c12
      have hiff : (decide (pOk bits p_0 p_1 p_2 p_3 p_4_l)) = decide (((p_1 = 0 ∨ p_1 = 1) ↔ p_3 = 0)) := by
        unfold pOk; simp [h1, h2, h3, h4, h5, h6]
      rw [hiff]
      refine H3.ld (i := 0) rfl rfl ?_
      refine bsplit_dec (fun c11 => ?_) (fun c11 => ?_) --  (decide (p_1 = (0 : Int)))
      · refine H3.ld (i := 0) rfl rfl ?_
        refine kLet_in ?_
        exact ⟨retD (by omega), H3.below⟩ --! (.bool (decide (p_3 = (0 : Int))))
      · refine H3.ld (i := 0) rfl rfl ?_
        refine bsplit_dec (fun c10 => ?_) (fun c10 => ?_) --  (decide (p_1 = (1 : Int)))
        · refine H3.ld (i := 0) rfl rfl ?_
          refine kLet_in ?_
          exact ⟨retD (by omega), H3.below⟩ --! (.bool (decide (p_3 = (0 : Int))))
        · refine H3.ld (i := 0) rfl rfl ?_
          refine kLet_in ?_
          exact ⟨retD (by omega), H3.below⟩ --! (.bool (decide (p_3 > (0 : Int))))
  · refine ref15_Bits_ct.mono ?_ -- (.int .i64 bits)
    rintro _ w2 ⟨rfl, hb2⟩; have H2 := H1.pass hb2; clear H1
    refine ⟨_, rfl, ?_⟩
    refine bsplit_nd (fun c9 => ?_) (fun c9 => ?_) --  (!r)
    · exact ⟨H2, fun _ h => c9 h.1, fun h => by cases h⟩ --! J true
    · have hbn : bits.toNat ≤ 62 ∧ 0 ≤ bits := by unfold bitsOk at c9; omega
      refine H2.ld (i := 0) rfl rfl ?_
      refine bsplit_dec (fun c8 => ?_) (fun c8 => ?_) --  (decide (p_0 < (0 : Int)))
      · exact ⟨H2, fun _ h => by have := h.2.1; omega, fun h => by cases h⟩ --! J true
      · refine H2.ld (i := 0) rfl rfl ?_
        refine kW_u64 (by omega) ?_ -- bits
        refine ⟨by omega, ?_⟩
        refine kShl1 (by omega) ?_
        refine bsplit_dec (fun c7 => ?_) (fun c7 => ?_) --  (decide (p_0 ≥ ((1 : Int) * 2 ^ (min bits.toNat (IntKind.bits .i64)))))
        · exact ⟨H2, fun _ h => by have := h.2.1; omega, fun h => by cases h⟩ --! J true
        · refine H2.ld (i := 0) rfl rfl ?_
          refine bsplit_dec (fun c6 => ?_) (fun c6 => ?_) --  (decide (p_1 < (0 : Int)))
          · exact ⟨H2, fun _ h => by have := h.2.2.1; omega, fun h => by cases h⟩ --! J true
          · refine H2.ld (i := 0) rfl rfl ?_
            refine bsplit_dec (fun c5 => ?_) (fun c5 => ?_) --  (decide (p_1 > (3 : Int)))
            · exact ⟨H2, fun _ h => by have := h.2.2.1; omega, fun h => by cases h⟩ --! J true
            · refine H2.ld (i := 0) rfl rfl ?_
              refine bsplit_dec (fun c4 => ?_) (fun c4 => ?_) --  (decide (p_2 < (0 : Int)))
              · exact ⟨H2, fun _ h => by have := h.2.2.2.1; omega, fun h => by cases h⟩ --! J true
              · refine H2.ld (i := 0) rfl rfl ?_
                refine bsplit_dec (fun c3 => ?_) (fun c3 => ?_) --  (decide (p_2 > (1 : Int)))
                · exact ⟨H2, fun _ h => by have := h.2.2.2.1; omega, fun h => by cases h⟩ --! J true
                · refine H2.ldS (i := 0) rfl rfl ?_
                  refine bsplit_dec (fun c2 => ?_) (fun c2 => ?_) --  (decide ((p_4_l : Int) < (1 : Int)))
                  · exact ⟨H2, fun _ h => by have := h.2.2.2.2.2.2; omega, fun h => by cases h⟩ --! J true
                  · refine H2.ld (i := 0) rfl rfl ?_
                    refine bsplit_dec (fun c1 => ?_) (fun c1 => ?_) --  (decide (p_3 < (0 : Int)))
                    · exact ⟨H2, fun _ h => by have := h.2.2.2.2.2.1; omega, fun h => by cases h⟩ --! J true
                    · refine H2.ld (i := 0) rfl rfl ?_
                      refine bsplit_dec (fun c => ?_) (fun c => ?_) --  (decide (p_3 > (2054 : Int)))
                      · exact ⟨H2, fun _ h => by have := h.2.2.2.2.2.1; omega, fun h => by cases h⟩ --! J true
                      · refine H2.ld (i := 0) rfl rfl ?_
                        refine H2.ldS (i := 0) rfl rfl ?_
                        refine kW_i64 (by omega) ?_ -- p_3 + (p_4_l : Int)
                        exact ⟨H2, fun h h' => by have := h'.2.2.2.2.2; simp at h; omega, fun h => ⟨c9, by omega, by omega, by omega, by omega, by omega, by simp at h; omega⟩⟩ --! J (decide ((p_3 + (p_4_l : Int)) > (2054 : Int)))
end
end Go.Proofs.Ytmhggobilcmdmaa
namespace Go.Proofs.Ytmhggobilcmdmaa
open Go.Sx Go.RowKit

/-- a byte of a slice that is read -/
theorem ix_u8 {w : World} {a : Option Addr} {xs : List Int} (hs : SlR (IntC .u8) 1 w a xs) (i : Nat) {j : Int} (hj : j = i) (hi : i < xs.length) {F : Addr → Prop}
    (h : ∀ b, (∀ G : Int → Prop, G (xs.getD i 0) → kLd w (b.add (j.toNat * 1)) .u8 G) → F b) : kIx a xs.length j F := by
  subst hj
  obtain ⟨b, rfl, hb⟩ := hs.get hi
  exact ⟨b, rfl, ⟨by omega, by omega⟩, h b fun G hG => ⟨_, by rw [Int.toNat_natCast]; exact hb, by rwa [getD_at hi] at hG⟩⟩
theorem bytes_getD {bs : List Int} (hb : Bytes bs) (i : Nat) : 0 ≤ bs.getD i 0 ∧ bs.getD i 0 < 256 := by
  rcases Nat.lt_or_ge i bs.length with h | h
  · rw [getD_at h]; exact hb _ h
  · simp [List.getD, List.getElem?_eq_none h]
theorem clone_bytes {s_a : Option Addr} {xs : List Int} {s_c : Nat} {w : World} (hs : SlR (IntC .u8) 1 w s_a xs) (hl : xs.length ≤ 140737488355328) :
    Calls Try.prog N_slices_Clone_Sbyte_byte #[(.slice s_a xs.length s_c)] w fun e w' => ∃ a c, e = .returned (.slice a xs.length c) ∧ FreshR w w' [.ints Ty_uint8 .u8 a c xs] := by
  apply F_slices_Clone_Sbyte_byte_ok
  unfold F_slices_Clone_Sbyte_byte
  have H := St.nil w
  cases s_a with
  | none =>
    obtain rfl : xs = [] := by
      rcases hs with h | ⟨b, hb, _⟩
      · exact h
      · cases hb
    exact ⟨none, 0, rfl, H.nilI Ty_uint8 .u8⟩
  | some p =>
    refine bsplit_intro (fun h => by cases h) (fun _ => ?_)
    refine H.alloc ?_; clear H; intro b w1 H1
    have H1 := H1.litI (i := 0) (k := .u8) [] rfl (by decide)
    refine H1.appI (i := 0) rfl sl_Ty_S_uint8 (hs.below H1.below) (by simp; omega) (by simp; omega) ?_; intro x_a x_c w2 H2 --! append (.slice (some ⟨b, 0, none⟩) 0 0) (.slice s_a s_l s_c)
    exact ⟨x_a, x_c, rfl, H2⟩ --! (.slice x_a x_l x_c)

/-- the bytes of a number, the upper first -/
def putB : Nat → Int → List Int
  | 0, _ => []
  | n + 1, v => (v / 2 ^ (8 * n)) % 256 :: putB n v
theorem putB_length (n : Nat) (v : Int) : (putB n v).length = n := by induction n <;> simp [putB, *]
theorem put_ok {b_a : Option Addr} {b_c : Nat} {bytes : Nat} {v : Int} {w : World} {ys : List Int} {A : Nat → Prop} {P : World → Prop} (hP : Held A w P) (hb : (Res.ints Ty_uint8 .u8 b_a b_c ys).ok w)
    (hA : ∀ b, (Res.ints Ty_uint8 .u8 b_a b_c ys).at = some b → ¬ A b) (hn : bytes ≤ 7) (hl : ys.length ≤ 140737488355000) :
    Calls Try.prog N_ref01_Put #[(.slice b_a ys.length b_c), (.int .i64 (bytes : Int)), (.int .i64 v)] w fun e w' => ∃ a c, e = .returned (.slice a (ys ++ putB bytes v).length c) ∧
      St A (Res.ints Ty_uint8 .u8 b_a b_c ys).at.toList w w' [.ints Ty_uint8 .u8 a c (ys ++ putB bytes v)] P := by
  apply F_ref01_Put_ok
  unfold F_ref01_Put
  have H := St.startM hP hb hA
  refine kW_i64 (by omega) ?_ -- bytes - (1 : Int)
  refine ⟨fun b_a1 b_l1 b_c1 i => ((i + 1).toNat, fun w1 => ∃ (k : Nat) (zs : List Int), k ≤ bytes ∧ i = (k : Int) - 1 ∧ zs ++ putB k v = ys ++ putB bytes v ∧ b_l1 = zs.length ∧ zs.length + k = ys.length + bytes ∧ St A (Res.ints Ty_uint8 .u8 b_a b_c ys).at.toList w w1 [.ints Ty_uint8 .u8 b_a1 b_c1 zs] P), ⟨bytes, ys, by omega, rfl, rfl, rfl, rfl, H⟩, ?_⟩ --! I b_a b_l b_c (bytes - (1 : Int))
  clear H
  rintro _ b_a1 b_l1 b_c1 i w1 ⟨k, zs, hk, rfl, hz, rfl, hzl, H1⟩
  refine bsplit_dec (fun c => ?_) (fun c => ?_) --  (decide (i ≥ (0 : Int)))
  · obtain ⟨m, rfl⟩ : ∃ m, k = m + 1 := ⟨k - 1, by omega⟩
    refine kW_i64 (by omega) ?_ -- (8 : Int) * i
    refine kW_u64 (by omega) ?_ -- ((8 : Int) * i)
    refine ⟨by omega, ?_⟩
    have e1 : min (8 * (((m + 1 : Nat) : Int) - 1)).toNat (IntKind.bits .i64) = 8 * m := by show min _ 64 = _; omega
    rw [e1]
    refine kFdiv ?_
    refine kWu8 ?_
    refine H1.alloc ?_; clear H1; intro b w2 H2
    refine H2.appIB (i := 0) (j := 1) rfl [v / 2 ^ (8 * m) % 256] rfl sl_Ty_S_uint8 rfl (by simp; omega) (by simp; omega) ?_; intro x_a x_c w3 H3 --! append (.slice b_a1 b_l1 b_c1) (.slice (some ⟨b, 0, none⟩) 1 1)
    refine kW_i64 (by omega) ?_ -- i - (1 : Int)
    refine ⟨⟨m, zs ++ [v / 2 ^ (8 * m) % 256], by omega, by omega, by rw [← hz]; simp [putB], rfl, by simp; omega, ?_⟩, by dsimp only; omega⟩ --! I x_a x_l x_c (i - (1 : Int))
    exact H3.dropLast
  · obtain rfl : k = 0 := by omega
    have hz : zs = ys ++ putB bytes v := by simpa [putB] using hz
    subst hz
    exact ⟨b_a1, b_c1, rfl, H1⟩ --! (.slice b_a1 b_l1 b_c1)

/-- the number in some bytes -/
def getN (bs : List Int) (at_ : Nat) : Nat → Int
  | 0 => 0
  | n + 1 => 256 * getN bs at_ n + bs.getD (at_ + n) 0
theorem getN_range {bs : List Int} (hb : Bytes bs) (at_ : Nat) : ∀ n, 0 ≤ getN bs at_ n ∧ getN bs at_ n < 256 ^ n
  | 0 => by simp [getN]
  | n + 1 => by
    have ih := getN_range hb at_ n
    have hd : 0 ≤ bs.getD (at_ + n) 0 ∧ bs.getD (at_ + n) 0 < 256 := by
      rcases Nat.lt_or_ge (at_ + n) bs.length with h | h
      · rw [getD_at h]; exact hb _ h
      · simp [List.getD, List.getElem?_eq_none h]
    rw [Int.pow_succ]
    simp only [getN]
    omega
theorem get_ok {b_a : Option Addr} {b_c : Nat} {bs : List Int} {at1 bytes : Nat} {w : World} (hs : SlR (IntC .u8) 1 w b_a bs) (hB : Bytes bs) (hl : at1 + bytes ≤ bs.length) (hn : bytes ≤ 7) (hat : at1 ≤ 1000000) :
    Calls Try.prog N_ref01_Get #[(.slice b_a bs.length b_c), (.int .i64 (at1 : Int)), (.int .i64 (bytes : Int))] w fun e w' => e = .returned (.int .i64 (getN bs at1 bytes)) ∧ Below w.heap.size w w' := by
  apply F_ref01_Get_ok
  unfold F_ref01_Get
  have H := St.nil w
  refine ⟨fun v i => ((bytes - i).toNat, fun w1 => ∃ k : Nat, k ≤ bytes ∧ i = k ∧ v = getN bs at1 k ∧ FreshR w w1 []), ⟨0, by omega, rfl, rfl, H⟩, ?_⟩ --! I (0 : Int) (0 : Int)
  clear H
  rintro _ v i w1 ⟨k, hk, rfl, rfl, H1⟩
  have hr := getN_range hB at1 k
  have hp : (256 : Int) ^ k ≤ 256 ^ 7 := by
    have : (256 : Nat) ^ k ≤ 256 ^ 7 := Nat.pow_le_pow_right (by decide) (by omega)
    have e : (256 : Int) ^ k = ((256 ^ k : Nat) : Int) := by simp
    rw [e]; omega
  refine bsplit_dec (fun c => ?_) (fun c => ?_) --  (decide (i < bytes))
  · have hk2 : k ≤ 6 := by omega
    have hp : (256 : Int) ^ k ≤ 256 ^ 6 := by
      have : (256 : Nat) ^ k ≤ 256 ^ 6 := Nat.pow_le_pow_right (by decide) hk2
      have e : (256 : Int) ^ k = ((256 ^ k : Nat) : Int) := by simp
      rw [e]; omega
    have hx := bytes_getD hB (at1 + k)
    refine kW_i64 (by omega) ?_ -- (256 : Int) * v
    refine kW_i64 (by omega) ?_ -- at1 + i
    refine ix_u8 (hs.below H1.below) (at1 + k) (by omega) (by omega) fun b hb => ?_
    refine hb _ ?_
    refine kW_i64 (by omega) ?_ -- x2
    refine kW_i64 (by omega) ?_ -- ((256 : Int) * v) + x2
    refine kW_i64 (by omega) ?_ -- i + (1 : Int)
    exact ⟨⟨k + 1, by omega, by omega, rfl, H1⟩, by dsimp only; omega⟩ --! I (((256 : Int) * v) + x2) (i + (1 : Int))
  · obtain rfl : k = bytes := by omega
    exact ⟨rfl, H1.below⟩ --! (.int .i64 v)

theorem same_bytes {a b : Option Addr} {c1 c2 : Nat} {xs ys : List Int} {w : World} (ha : SlR (IntC .u8) 1 w a xs) (hb : SlR (IntC .u8) 1 w b ys) (hx : Bytes xs) (hy : Bytes ys) :
    Calls Try.prog N_ref01_Same #[.slice a xs.length c1, .slice b ys.length c2] w fun e w' => e = .returned (.bool (decide (xs = ys))) ∧ Below w.heap.size w w' := by
  apply F_ref01_Same_ok
  unfold F_ref01_Same
  refine convS_bytes (e := Ty_uint8) (by kernel_rfl) (by kernel_rfl) (by kernel_rfl) ha ?_
  refine convS_bytes (e := Ty_uint8) (by kernel_rfl) (by kernel_rfl) (by kernel_rfl) hb ?_
  refine ⟨?_, .refl _ _⟩
  rw [str_beq hx hy]
end Go.Proofs.Ytmhggobilcmdmaa
namespace Go.Proofs.Ytmhggobilcmdmaa
open Go.Sx Go.RowKit

/-- what a function returns that makes bytes, or an error -/
def RetB (w : World) (bs : List Int) (er : Int) : Ending → World → Prop := fun e w' => ∃ a c, bs.length ≤ c ∧ e = .returned (.tuple #[.slice a bs.length c, .int .i64 er]) ∧ Fresh w w' fun w => SlR (IntC .u8) 1 w a bs
theorem RetB.nil {w w' : World} (b : Below w.heap.size w w') (er : Int) : RetB w [] er (.returned (.tuple #[.slice none 0 0, .int .i64 er])) w' :=
  ⟨none, 0, Nat.le_refl _, rfl, ((St.nil w).pass b).imp fun _ _ => .nil⟩

theorem putB2 (v : Int) : putB 2 v = [v / 256 % 256, v % 256] := by simp [putB]
section
variable {bits : Int} {p_0 : Int} {p_1 : Int} {p_2 : Int} {p_3 : Int} {p_4_a : Option Addr} {d : List Int} {p_4_c : Nat} {w : World}
theorem segment_Encode_ct (hs : SlR (IntC .u8) 1 w p_4_a d) (hl : d.length ≤ 140737488355000) :
    Calls Try.prog N_segment_Encode #[(.int .i64 bits), (.agg #[.int .i64 p_0, .int .i64 p_1, .int .i64 p_2, .int .i64 p_3, .slice p_4_a d.length p_4_c])] w
      (RetB w (encP bits ⟨p_0, p_1, p_2, p_3, d⟩).1 (encP bits ⟨p_0, p_1, p_2, p_3, d⟩).2) := by
  apply F_segment_Encode_ok
  unfold F_segment_Encode
  have H := St.nil w
  refine H.alloc ?_; clear H; intro b w1 H1
  refine ⟨_, _, _, _, _, _, _, H1.cells (i := 0) rfl, ?_⟩
  refine (segment_Valid_ct (by omega)).mono ?_ -- (.int .i64 bits), (.agg #[.int .i64 p_0, .int .i64 p_1, .int .i64 p_2, .int .i64 p_3, .slice p_4_a p_4_l p_4_c])
  rintro _ w2 ⟨rfl, hb2⟩; have H2 := H1.pass hb2; clear H1
  refine ⟨_, rfl, ?_⟩
  refine bsplit_nd (fun c1 => ?_) (fun c1 => ?_) --  (!r)
  · have e0 : encP bits ⟨p_0, p_1, p_2, p_3, d⟩ = ([], 1) := if_neg c1
    rw [e0]
    exact .nil H2.below _ --! (.tuple #[(.slice none 0 0), (.int .i64 (1 : Int))])
  · have e0 : encP bits ⟨p_0, p_1, p_2, p_3, d⟩ = (Pc.bytes ⟨p_0, p_1, p_2, p_3, d⟩, 0) := if_pos c1
    rw [e0]
    clear e0
    obtain ⟨hb, h0, h1, h2, h3, h4, h5, h6⟩ := c1
    have hp := pow_bits hb
    refine H2.ld (i := 0) rfl rfl ?_
    refine kW_i64 (by omega) ?_ -- p_2 * 2 ^ 14
    refine kLet_to (bOr_i64 15 1 (by decide) (by omega) (by omega) (by omega)) ?_ --! bOr .i64 (32768 : Int) (p_2 * 2 ^ 14)
    refine H2.ld (i := 0) rfl rfl ?_
    refine kW_i64 (by omega) ?_ -- p_1 * 2 ^ 12
    refine kLet_to (bOr_i64 14 (2 + p_2) (by omega) (by omega) (by omega) (by omega)) ?_ --! bOr .i64 x2 (p_1 * 2 ^ 12)
    refine H2.ld (i := 0) rfl rfl ?_
    refine kLet_to (bOr_i64 12 (8 + 4 * p_2 + p_1) (by omega) (by omega) (by omega) (by omega)) ?_ --! bOr .i64 x5 p_0
    refine kFdiv ?_
    refine kWu8 ?_
    refine kWu8 ?_
    have e1 : (32768 + p_2 * 2 ^ 14 + p_1 * 2 ^ 12 + p_0) / 2 ^ 8 % 256 = (Pc.first ⟨p_0, p_1, p_2, p_3, d⟩) / 256 := by simp only [Pc.first]; omega
    have e2 : (32768 + p_2 * 2 ^ 14 + p_1 * 2 ^ 12 + p_0) % 256 = (Pc.first ⟨p_0, p_1, p_2, p_3, d⟩) % 256 := by simp only [Pc.first]; omega
    rw [e1, e2]
    refine H2.alloc ?_; clear H2; intro b1 w3 H3
    refine H3.ld (i := 0) rfl rfl ?_
    refine segment_begins_ct.mono ?_ -- (.int .i64 p_1)
    rintro _ w4 ⟨rfl, hb4⟩; have H4 := H3.pass hb4; clear H3
    refine ⟨_, rfl, ?_⟩
    have H4 := H4.litI (i := 1) (k := .u8) [(Pc.first ⟨p_0, p_1, p_2, p_3, d⟩) / 256, (Pc.first ⟨p_0, p_1, p_2, p_3, d⟩) % 256] rfl (by simp [maxLen])
    unfold begins Pc.bytes
    refine bsplit_nd (fun c => ?_) (fun c => ?_) --  (!r1)
    · simp only [if_neg c]
      refine H4.ld (i := 0) rfl rfl ?_
      refine kFdiv ?_
      refine kWu8 ?_
      refine H4.ld (i := 0) rfl rfl ?_
      refine kWu8 ?_
      rw [show p_3 / 2 ^ 8 % 256 = p_3 / 256 by omega]
      refine H4.alloc ?_; clear H4; intro b2 w5 H5
      refine H5.appIB (i := 1) (j := 2) rfl [p_3 / 256, p_3 % 256] rfl sl_Ty_S_uint8 rfl (by simp) (by simp) ?_; intro x_a x_c w6 H6 --! append (.slice (some ⟨b1, 0, none⟩) 2 2) (.slice (some ⟨b2, 0, none⟩) 2 2)
      refine H6.ldS (i := 0) rfl rfl ?_
      refine H6.appI (i := 1) rfl sl_Ty_S_uint8 (hs.below H6.below) (by simp; omega) (by simp; omega) ?_; intro x_a2 x_c2 w7 H7 --! append (.slice x_a x_l x_c) (.slice p_4_a p_4_l p_4_c)
      exact ⟨x_a2, x_c2, H7.capI (i := 1) rfl, rfl, ((H7.shareI (i := 1) rfl).fin).imp fun _ h => h.1⟩ --! (.tuple #[(.slice x_a2 x_l2 x_c2), (.int .i64 (0 : Int))])
    · simp only [if_pos c]
      refine H4.ldS (i := 0) rfl rfl ?_
      refine H4.appI (i := 1) rfl sl_Ty_S_uint8 (hs.below H4.below) (by simp; omega) (by simp; omega) ?_; intro x_a4 x_c4 w8 H8 --! append (.slice (some ⟨b1, 0, none⟩) 2 2) (.slice p_4_a p_4_l p_4_c)
      exact ⟨x_a4, x_c4, H8.capI (i := 1) rfl, rfl, ((H8.shareI (i := 1) rfl).fin).imp fun _ h => h.1⟩ --! (.tuple #[(.slice x_a4 x_l4 x_c4), (.int .i64 (0 : Int))])

theorem ref18_Encode_ct (hs : SlR (IntC .u8) 1 w p_4_a d) (hl : d.length ≤ 140737488355000) :
    Calls Try.prog N_ref18_Encode #[(.int .i64 bits), (.agg #[.int .i64 p_0, .int .i64 p_1, .int .i64 p_2, .int .i64 p_3, .slice p_4_a d.length p_4_c])] w
      (RetB w (encP bits ⟨p_0, p_1, p_2, p_3, d⟩).1 (encP bits ⟨p_0, p_1, p_2, p_3, d⟩).2) := by
  apply F_ref18_Encode_ok
  unfold F_ref18_Encode
  have H := St.nil w
  refine H.alloc ?_; clear H; intro b w1 H1
  refine ⟨_, _, _, _, _, _, _, H1.cells (i := 0) rfl, ?_⟩
  refine (ref18_Valid_ct (by omega)).mono ?_ -- (.int .i64 bits), (.agg #[.int .i64 p_0, .int .i64 p_1, .int .i64 p_2, .int .i64 p_3, .slice p_4_a p_4_l p_4_c])
  rintro _ w2 ⟨rfl, hb2⟩; have H2 := H1.pass hb2; clear H1
  refine ⟨_, rfl, ?_⟩
  refine bsplit_nd (fun c1 => ?_) (fun c1 => ?_) --  (!r)
  · have e0 : encP bits ⟨p_0, p_1, p_2, p_3, d⟩ = ([], 1) := if_neg c1
    rw [e0]
    exact .nil H2.below _ --! (.tuple #[(.slice none 0 0), (.int .i64 (1 : Int))])
  · have e0 : encP bits ⟨p_0, p_1, p_2, p_3, d⟩ = (Pc.bytes ⟨p_0, p_1, p_2, p_3, d⟩, 0) := if_pos c1
    rw [e0]
    clear e0
    obtain ⟨hb, h0, h1, h2, h3, h4, h5, h6⟩ := c1
    have hp := pow_bits hb
    refine H2.ld (i := 0) rfl rfl ?_
    refine kW_i64 (by omega) ?_ -- (16384 : Int) * p_2
    refine kW_i64 (by omega) ?_ -- (32768 : Int) + ((16384 : Int) * p_2)
    refine H2.ld (i := 0) rfl rfl ?_
    refine kW_i64 (by omega) ?_ -- (4096 : Int) * p_1
    refine kW_i64 (by omega) ?_ -- ((32768 : Int) + ((16384 : Int) * p_2)) + ((4096 : Int) * p_1)
    refine H2.ld (i := 0) rfl rfl ?_
    refine kW_i64 (by omega) ?_ -- (((32768 : Int) + ((16384 : Int) * p_2)) + ((4096 : Int) * p_1)) + p_0
    have H2 := H2.nilI Ty_uint8 .u8
    obtain ⟨A, hA, hn, hr, hc⟩ := H2.callM (i := 1) rfl
    refine (put_ok (bytes := 2) (ys := []) hA hr hn (by omega) (by simp)).mono ?_ -- (.slice none 0 0), (.int .i64 (2 : Int)), (.int .i64 ((((32768 : Int) + ((16384 : Int) * p_2)) + ((4096 : Int) * p_1)) + p_0))
    rintro _ w3 ⟨r_a, r_c, rfl, K⟩; have H3 := (hc K).imp fun _ h => h.2
    clear K hc hr hn hA A H2
    refine ⟨_, _, _, rfl, ?_⟩
    have e1 : ([] ++ putB 2 (32768 + 16384 * p_2 + 4096 * p_1 + p_0)) = [(Pc.first ⟨p_0, p_1, p_2, p_3, d⟩) / 256, (Pc.first ⟨p_0, p_1, p_2, p_3, d⟩) % 256] := by
      rw [putB2]; simp only [Pc.first, List.nil_append, List.cons.injEq, and_true]; omega
    rw [e1] at H3 ⊢
    refine H3.ld (i := 0) rfl rfl ?_
    refine ref18_Head_ct.mono ?_ -- (.int .i64 p_1)
    rintro _ w4 ⟨rfl, hb4⟩; have H4 := H3.pass hb4; clear H3
    refine ⟨_, rfl, ?_⟩
    unfold headN Pc.bytes
    refine bsplit_dec (fun c => ?_) (fun c => ?_) --  (decide (r1 = (4 : Int)))
    · have c : ¬ (p_1 = 0 ∨ p_1 = 1) := fun h => by rw [if_pos h] at c; omega
      simp only [if_neg c]
      refine H4.ld (i := 0) rfl rfl ?_
      obtain ⟨A, hA, hn, hr, hc⟩ := H4.callM (i := 1) rfl
      refine (put_ok (bytes := 2) hA hr hn (by omega) (by simp)).mono ?_ -- (.slice r_a r_l r_c), (.int .i64 (2 : Int)), (.int .i64 p_3)
      rintro _ w5 ⟨r_a1, r_c1, rfl, K⟩; have H5 := (hc K).imp fun _ h => h.2
      clear K hc hr hn hA A H4
      refine ⟨_, _, _, rfl, ?_⟩
      have e2 : putB 2 p_3 = [p_3 / 256, p_3 % 256] := by rw [putB2]; simp only [List.cons.injEq, and_true]; omega
      rw [e2] at H5 ⊢
      refine H5.ldS (i := 0) rfl rfl ?_
      refine H5.appI (i := 1) rfl sl_Ty_S_uint8 (hs.below H5.below) (by simp; omega) (by simp; omega) ?_; intro x_a1 x_c1 w6 H6 --! append (.slice r_a1 r_l1 r_c1) (.slice p_4_a p_4_l p_4_c)
      exact ⟨x_a1, x_c1, H6.capI (i := 1) rfl, rfl, ((H6.shareI (i := 1) rfl).fin).imp fun _ h => h.1⟩ --! (.tuple #[(.slice x_a1 x_l1 x_c1), (.int .i64 (0 : Int))])
    · have c : p_1 = 0 ∨ p_1 = 1 := Decidable.byContradiction fun h => by rw [if_neg h] at c; omega
      simp only [if_pos c]
      refine H4.ldS (i := 0) rfl rfl ?_
      refine H4.appI (i := 1) rfl sl_Ty_S_uint8 (hs.below H4.below) (by simp; omega) (by simp; omega) ?_; intro x_a3 x_c3 w7 H7 --! append (.slice r_a r_l r_c) (.slice p_4_a p_4_l p_4_c)
      exact ⟨x_a3, x_c3, H7.capI (i := 1) rfl, rfl, ((H7.shareI (i := 1) rfl).fin).imp fun _ h => h.1⟩ --! (.tuple #[(.slice x_a3 x_l3 x_c3), (.int .i64 (0 : Int))])

end
end Go.Proofs.Ytmhggobilcmdmaa
namespace Go.Proofs.Ytmhggobilcmdmaa
open Go.Sx Go.RowKit

/-- what a function returns that makes a piece, or an error -/
def RetP (w : World) (p : Pc) (er : Int) : Ending → World → Prop := fun e w' => ∃ a c, p.data.length ≤ c ∧
  e = .returned (.tuple #[.agg #[.int .i64 p.sn, .int .i64 p.part, .int .i64 p.poll, .int .i64 p.off, .slice a p.data.length c], .int .i64 er]) ∧ Fresh w w' fun w => SlR (IntC .u8) 1 w a p.data
theorem RetP.zero {w w' : World} (b : Below w.heap.size w w') (er : Int) :
    RetP w .zero er (.returned (.tuple #[.agg #[.int .i64 0, .int .i64 0, .int .i64 0, .int .i64 0, .slice none 0 0], .int .i64 er])) w' :=
  ⟨none, 0, Nat.le_refl _, rfl, ((St.nil w).pass b).imp fun _ _ => .nil⟩
theorem headN_cases (part : Int) : ((part = 0 ∨ part = 1) ∧ headN part = 2) ∨ (¬ (part = 0 ∨ part = 1) ∧ headN part = 4) := by
  unfold headN
  by_cases h : part = 0 ∨ part = 1
  · exact .inl ⟨h, if_pos h⟩
  · exact .inr ⟨h, if_neg h⟩

section
variable {bits : Int} {b_a : Option Addr} {bs : List Int} {b_c : Nat} {w : World}
theorem ref18_Decode_ct (hs : SlR (IntC .u8) 1 w b_a bs) (hB : Bytes bs) (hl : bs.length ≤ 140737488355328) (hcap : bs.length ≤ b_c) :
    Calls Try.prog N_ref18_Decode #[(.int .i64 bits), (.slice b_a bs.length b_c)] w (RetP w (decP bits bs).1 (decP bits bs).2) := by
  apply F_ref18_Decode_ok
  unfold F_ref18_Decode
  have H := St.nil w
  refine H.alloc ?_; clear H; intro b w1 H1
  refine ref15_Bits_ct.mono ?_ -- (.int .i64 bits)
  rintro _ w2 ⟨rfl, hb2⟩; have H2 := H1.pass hb2; clear H1
  refine ⟨_, rfl, ?_⟩
  refine bsplit_nd (fun c5 => ?_) (fun c5 => ?_) --  (!r)
  · refine H2.store (i := 0) rfl (by rfl) (by rfl) ?_; clear H2; intro w3 H3
    refine ⟨_, _, _, _, _, _, _, H3.cells (i := 0) rfl, ?_⟩
    have e0 : decP bits bs = (.zero, 3) := by unfold decP; rw [if_pos c5]
    rw [e0]
    exact .zero H3.below _
  · refine bsplit_dec (fun c4 => ?_) (fun c4 => ?_) --  (decide ((b_l : Int) < (2 : Int)))
    · refine H2.store (i := 0) rfl (by rfl) (by rfl) ?_; clear H2; intro w4 H4
      refine ⟨_, _, _, _, _, _, _, H4.cells (i := 0) rfl, ?_⟩
      have e0 : decP bits bs = (.zero, 5) := by unfold decP; rw [if_neg (by simpa using c5), if_pos (by omega)]
      rw [e0]
      exact .zero H4.below _
    · refine (get_ok (at1 := 0) (bytes := 2) (hs.below H2.below) hB (by omega) (by omega) (by omega)).mono ?_ -- (.slice b_a b_l b_c), (.int .i64 (0 : Int)), (.int .i64 (2 : Int))
      rintro _ w5 ⟨rfl, hb5⟩; have H5 := H2.pass hb5; clear H2
      refine ⟨_, rfl, ?_⟩
      have b0 := bytes_getD hB 0
      have b1 := bytes_getD hB 1
      obtain ⟨f, hf⟩ : ∃ f, f = 256 * bs.getD 0 0 + bs.getD 1 0 := ⟨_, rfl⟩
      have eg : getN bs 0 2 = f := by rw [hf]; simp [getN]
      rw [eg]
      refine kFdiv ?_
      refine kLet_to (y := f / 16384 % 2) (by rw [bAnd_i64 (m := 1) 1 (by omega) (by decide) (by decide)]; omega) ?_
      refine kFdiv ?_
      refine kLet_to (y := f / 4096 % 4) (by rw [bAnd_i64 (m := 3) 2 (by omega) (by decide) (by decide)]; omega) ?_
      refine kLet_to (y := f % 4096) (by rw [bAnd_i64 (m := 4095) 12 (by omega) (by decide) (by decide)]; omega) ?_
      have hraw : rawP bs = ⟨f % 4096, f / 4096 % 4, f / 16384 % 2, if f / 4096 % 4 = 0 ∨ f / 4096 % 4 = 1 then 0 else 256 * bs.getD 2 0 + bs.getD 3 0, bs.drop (headN (f / 4096 % 4))⟩ := by rw [hf]; rfl
      have hpart : (rawP bs).part = f / 4096 % 4 := by rw [hraw]
      refine H5.alloc ?_; clear H5; intro b1 w6 H6
      refine H6.store (i := 1) rfl (by rfl) (by rfl) ?_; clear H6; intro w7 H7
      refine H7.ld (i := 1) rfl rfl ?_
      refine ref18_Head_ct.mono ?_ -- (.int .i64 x3)
      rintro _ w8 ⟨rfl, hb8⟩; have H8 := H7.pass hb8; clear H7
      refine ⟨_, rfl, ?_⟩
      refine bsplit_dec (fun c3 => ?_) (fun c3 => ?_) --  (decide ((b_l : Int) ≤ r2))
      · refine H8.store (i := 0) rfl (by rfl) (by rfl) ?_; clear H8; intro w9 H9
        refine ⟨_, _, _, _, _, _, _, H9.cells (i := 0) rfl, ?_⟩
        have e0 : decP bits bs = (.zero, 5) := by unfold decP; rw [if_neg (by simpa using c5), if_neg (by omega), if_pos (by rw [hpart]; omega)]
        rw [e0]
        exact .zero H9.below _
      · have hh := headN_cases (f / 4096 % 4)
        have dec : decP bits bs = if bs.getD 0 0 < 128 ∨ ¬ (rawP bs).ok bits then (.zero, 4) else (rawP bs, 0) := by
          unfold decP; rw [if_neg (by simpa using c5), if_neg (by omega), if_neg (by rw [hpart]; omega)]
        refine ⟨fun w12 => St (fun _ => False) [] w w12 [.blk b Ty_api_Piece [(.int .i64 (0 : Int)), (.int .i64 (0 : Int)), (.int .i64 (0 : Int)), (.int .i64 (0 : Int)), (.slice none 0 0)], .blk b1 Ty_api_Piece [(.int .i64 (f % 4096)), (.int .i64 (f / 4096 % 4)), (.int .i64 (f / 16384 % 2)), .int .i64 (rawP bs).off, .slice none 0 0]] (fun _ => True), ?_, ?_⟩ --!
        · rintro _  w12 H12
          refine ⟨⟨by omega, by omega⟩, ?_⟩ -- lo
          have hx : ((rawP bs).data).length = bs.length - ((headN (f / 4096 % 4) : Nat) : Int).toNat := by rw [hraw]; simp
          have hs12 : SlR (IntC .u8) 1 w12 (slAddr b_c ((headN (f / 4096 % 4) : Nat) : Int).toNat 1 b_a) (rawP bs).data := by
            rw [hraw]
            exact (hs.below H12.below).tail hcap
          rw [← hx]
          have H12 := H12.nilI Ty_uint8 .u8
          refine H12.appI (i := 2) rfl sl_Ty_S_uint8 hs12 (by simp; omega) (by simp; omega) ?_; intro x_a x_c w13 H13 --! append (.slice none 0 0) (.slice (slAddr b_c (r2.toNat) 1 b_a) (b_l - r2.toNat) (b_c - r2.toNat))
          rw [List.nil_append] at H13 ⊢
          refine H13.set (i := 1) rfl (by simp) ?_; clear H13; intro w14 H14
          refine bsplit_dec (fun c2 => ?_) (fun c2 => ?_) --  (decide (r1 < (32768 : Int)))
          · refine H14.store (i := 0) rfl (by rfl) (by rfl) ?_; clear H14; intro w15 H15
            refine ⟨_, _, _, _, _, _, _, H15.cells (i := 0) rfl, ?_⟩
            rw [dec, if_pos (.inl (by omega))]
            exact .zero H15.below _
          · refine ⟨_, _, _, _, _, _, _, H14.cells (i := 1) rfl, ?_⟩
            refine (ref18_Valid_ct (by omega)).mono ?_ -- (.int .i64 bits), (.agg #[.int .i64 x4, .int .i64 x3, .int .i64 x1, .int .i64 (0 : Int), .slice x_a x_l x_c])
            rintro _ w16 ⟨rfl, hb16⟩; have H16 := H14.pass hb16; clear H14
            refine ⟨_, rfl, ?_⟩
            have hok : (rawP bs).ok bits ↔ pOk bits (f % 4096) (f / 4096 % 4) (f / 16384 % 2) (rawP bs).off (rawP bs).data.length := by
              unfold Pc.ok; rw [show (rawP bs).sn = f % 4096 by rw [hraw], hpart, show (rawP bs).poll = f / 16384 % 2 by rw [hraw]]
            refine bsplit_nd (fun c1 => ?_) (fun c1 => ?_) --  (!r4)
            · refine H16.store (i := 0) rfl (by rfl) (by rfl) ?_; clear H16; intro w17 H17
              refine ⟨_, _, _, _, _, _, _, H17.cells (i := 0) rfl, ?_⟩
              rw [dec, if_pos (.inr (by rw [hok]; exact c1))]
              exact .zero H17.below _
            · refine ⟨_, _, _, _, _, _, _, H16.cells (i := 1) rfl, ?_⟩
              refine H16.store (i := 0) rfl (by rfl) (by rfl) ?_; clear H16; intro w18 H18
              refine ⟨_, _, _, _, _, _, _, H18.cells (i := 0) rfl, ?_⟩
              rw [dec, if_neg (by rw [hok]; simp only [not_or, Decidable.not_not]; exact ⟨by omega, c1⟩)]
              refine ⟨x_a, x_c, H18.capI (i := 2) rfl, ?_, ((H18.shareI (i := 2) rfl).fin).imp fun _ h => h.1⟩
              rw [show (rawP bs).sn = f % 4096 by rw [hraw], hpart, show (rawP bs).poll = f / 16384 % 2 by rw [hraw]]
        · refine bsplit_dec (fun c => ?_) (fun c => ?_) --  (decide (r2 = (4 : Int)))
          · refine (get_ok (at1 := 2) (bytes := 2) (hs.below H8.below) hB (by omega) (by omega) (by omega)).mono ?_ -- (.slice b_a b_l b_c), (.int .i64 (2 : Int)), (.int .i64 (2 : Int))
            rintro _ w10 ⟨rfl, hb10⟩; have H10 := H8.pass hb10; clear H8
            refine ⟨_, rfl, ?_⟩
            have e2 : getN bs 2 2 = (rawP bs).off := by rw [hraw]; simp only; rw [if_neg (by omega)]; simp [getN]
            rw [e2]
            refine H10.set (i := 1) rfl (by simp) ?_; clear H10; intro w11 H11
            exact H11 --! J 
          · have e : (rawP bs).off = 0 := by rw [hraw]; simp only; rw [if_pos (by omega)]
            rw [e]; exact H8 --! J 
end
end Go.Proofs.Ytmhggobilcmdmaa
namespace Go.Proofs.Ytmhggobilcmdmaa
open Go.Sx Go.RowKit

/-- what a function returns that makes two pieces, or an error -/
def RetPP (w : World) (p q : Pc) (er : Int) : Ending → World → Prop := fun e w' => ∃ a c a' c', p.data.length ≤ c ∧ q.data.length ≤ c' ∧
  e = .returned (.tuple #[.agg #[.int .i64 p.sn, .int .i64 p.part, .int .i64 p.poll, .int .i64 p.off, .slice a p.data.length c], .agg #[.int .i64 q.sn, .int .i64 q.part, .int .i64 q.poll, .int .i64 q.off, .slice a' q.data.length c'], .int .i64 er]) ∧
  Fresh w w' fun w => SlR (IntC .u8) 1 w a p.data ∧ SlR (IntC .u8) 1 w a' q.data
theorem RetPP.zero {w w' : World} (b : Below w.heap.size w w') (er : Int) :
    RetPP w .zero .zero er (.returned (.tuple #[.agg #[.int .i64 0, .int .i64 0, .int .i64 0, .int .i64 0, .slice none 0 0], .agg #[.int .i64 0, .int .i64 0, .int .i64 0, .int .i64 0, .slice none 0 0], .int .i64 er])) w' :=
  ⟨none, 0, none, 0, Nat.le_refl _, Nat.le_refl _, rfl, ((St.nil w).pass b).imp fun _ _ => ⟨.nil, .nil⟩⟩

section
variable {bits : Int} {p_0 : Int} {p_1 : Int} {p_2 : Int} {p_3 : Int} {p_4_a : Option Addr} {d : List Int} {p_4_c : Nat} {size : Int} {w : World}
theorem segment_Cut_ct (hs : SlR (IntC .u8) 1 w p_4_a d) (hl : d.length ≤ 140737488355000) (hcap : d.length ≤ p_4_c) (hsz : -9223372036854775808 ≤ size ∧ size ≤ 9223372036854775807) :
    Calls Try.prog N_segment_Cut #[(.int .i64 bits), (.agg #[.int .i64 p_0, .int .i64 p_1, .int .i64 p_2, .int .i64 p_3, .slice p_4_a d.length p_4_c]), (.int .i64 size)] w
      (RetPP w (cutP bits ⟨p_0, p_1, p_2, p_3, d⟩ size).1 (cutP bits ⟨p_0, p_1, p_2, p_3, d⟩ size).2.1 (cutP bits ⟨p_0, p_1, p_2, p_3, d⟩ size).2.2) := by
  apply F_segment_Cut_ok
  unfold F_segment_Cut
  have H := St.nil w
  have hh := headN_cases p_1
  refine H.alloc ?_; clear H; intro b w1 H1
  refine H1.alloc ?_; clear H1; intro b1 w2 H2
  refine H2.alloc ?_; clear H2; intro b2 w3 H3
  refine H3.ld (i := 0) rfl rfl ?_
  refine segment_head_ct.mono ?_ -- (.int .i64 p_1)
  rintro _ w4 ⟨rfl, hb4⟩; have H4 := H3.pass hb4; clear H3
  refine ⟨_, rfl, ?_⟩
  refine ⟨_, _, _, _, _, _, _, H4.cells (i := 0) rfl, ?_⟩
  refine (segment_Valid_ct (by omega)).mono ?_ -- (.int .i64 bits), (.agg #[.int .i64 p_0, .int .i64 p_1, .int .i64 p_2, .int .i64 p_3, .slice p_4_a p_4_l p_4_c])
  rintro _ w5 ⟨rfl, hb5⟩; have H5 := H4.pass hb5; clear H4
  refine ⟨_, rfl, ?_⟩
  refine bsplit_nd (fun c2 => ?_) (fun c2 => ?_) --  (!r1)
  · refine H5.store (i := 1) rfl (by rfl) (by rfl) ?_; clear H5; intro w6 H6
    refine H6.store (i := 2) rfl (by rfl) (by rfl) ?_; clear H6; intro w7 H7
    refine ⟨_, _, _, _, _, _, _, H7.cells (i := 1) rfl, ?_⟩
    refine ⟨_, _, _, _, _, _, _, H7.cells (i := 2) rfl, ?_⟩
    have e0 : cutP bits ⟨p_0, p_1, p_2, p_3, d⟩ size = (.zero, .zero, 1) := if_pos c2
    rw [e0]
    exact .zero H7.below _
  · refine kW_i64 (by omega) ?_ -- r + (1 : Int)
    refine kLet_in ?_
    refine bsplit_dec (fun c1 => ?_) (fun c1 => ?_) --  (decide (size < (r + (1 : Int))))
    · refine H5.store (i := 1) rfl (by rfl) (by rfl) ?_; clear H5; intro w8 H8
      refine H8.store (i := 2) rfl (by rfl) (by rfl) ?_; clear H8; intro w9 H9
      refine ⟨_, _, _, _, _, _, _, H9.cells (i := 1) rfl, ?_⟩
      refine ⟨_, _, _, _, _, _, _, H9.cells (i := 2) rfl, ?_⟩
      have e0 : cutP bits ⟨p_0, p_1, p_2, p_3, d⟩ size = (.zero, .zero, 15) := (if_neg (not_not_intro c2)).trans (if_pos c1)
      rw [e0]
      exact .zero H9.below _
    · refine ⟨_, _, _, _, _, _, _, H5.cells (i := 0) rfl, ?_⟩
      refine H5.store (i := 1) rfl (by rfl) (by rfl) ?_; clear H5; intro w10 H10
      refine H10.ldS (i := 0) rfl rfl ?_
      refine (clone_bytes (hs.below H10.below) (by omega)).mono ?_ -- (.slice p_4_a p_4_l p_4_c)
      rintro _ w11 ⟨r_a, r_c, rfl, K⟩; have H11 := H10.callR K; clear H10 K
      refine ⟨_, _, _, rfl, ?_⟩
      refine H11.set (i := 1) rfl (by simp) ?_; clear H11; intro w12 H12
      refine H12.ldS (i := 0) rfl rfl ?_
      refine kW_i64 (by omega) ?_ -- r + (p_4_l : Int)
      refine bsplit_dec (fun c => ?_) (fun c => ?_) --  (decide ((r + (p_4_l : Int)) ≤ size))
      · refine ⟨_, _, _, _, _, _, _, H12.cells (i := 1) rfl, ?_⟩
        refine H12.store (i := 1) rfl (by rfl) (by rfl) ?_; clear H12; intro w13 H13
        refine H13.store (i := 2) rfl (by rfl) (by rfl) ?_; clear H13; intro w14 H14
        refine ⟨_, _, _, _, _, _, _, H14.cells (i := 1) rfl, ?_⟩
        refine ⟨_, _, _, _, _, _, _, H14.cells (i := 2) rfl, ?_⟩
        have e0 : cutP bits ⟨p_0, p_1, p_2, p_3, d⟩ size = (⟨p_0, p_1, p_2, p_3, d⟩, .zero, 0) := (if_neg (not_not_intro c2)).trans ((if_neg c1).trans (if_pos c))
        rw [e0]
        exact ⟨r_a, r_c, none, 0, H14.capI (i := 3) rfl, Nat.le_refl _, rfl, ((H14.shareI (i := 3) rfl).fin).imp fun _ h => ⟨h.1, .nil⟩⟩
      · obtain ⟨k, hk⟩ : ∃ k, k = (size - (headN p_1 : Nat)).toNat := ⟨_, rfl⟩
        have e0 : cutP bits ⟨p_0, p_1, p_2, p_3, d⟩ size = (⟨p_0, partOf (begins p_1) false, p_2, p_3, d.take k⟩, ⟨p_0, partOf false (ends p_1), p_2, p_3 + (size - headN p_1), d.drop k⟩, 0) := by
          rw [hk]; exact (if_neg (not_not_intro c2)).trans ((if_neg c1).trans (if_neg c))
        rw [e0]
        have hoff := c2.2.2.2.2.2
        refine kW_i64 (by omega) ?_ -- size - r
        refine ⟨_, _, _, _, _, _, _, H12.cells (i := 0) rfl, ?_⟩
        refine H12.store (i := 2) rfl (by rfl) (by rfl) ?_; clear H12; intro w15 H15
        refine H15.drew ?_; clear H15; intro w16 H16
        refine ⟨fun x => x < w16.heap.size ∧ x ∉ [b2], ?_⟩
        have f16 := Fr.refl [b2] w16
        refine ⟨⟨H16.lt (i := 0) rfl rfl, nin1 (H16.ne (i := 0) (j := 2) rfl rfl (by decide) rfl rfl)⟩, ?_⟩
        refine H16.ld (i := 0) rfl rfl ?_
        refine kW_i64 (by omega) ?_ -- p_3 + (size - r)
        refine H16.ldS (i := 0) rfl rfl ?_
        refine ⟨⟨by omega, by omega⟩, ?_⟩ -- lo
        have hx : (d.drop k).length = d.length - (size - (headN p_1 : Nat)).toNat := by simp; omega
        rw [← hx, ← hk]
        refine (clone_bytes ((hs.below H16.below).tail hcap) (by omega)).mono ?_ -- (.slice (slAddr p_4_c ((size - r).toNat) 1 p_4_a) (p_4_l - (size - r).toNat) (p_4_c - (size - r).toNat))
        rintro _ w17 ⟨r_a1, r_c1, rfl, K⟩; have hb17 := K.below; have H17 := H16.callR K; clear K
        refine ⟨_, _, _, rfl, ?_⟩
        have f17 := f16.tr (hb17.fr []) (by simp)
        refine ⟨f17.keeps, ?_⟩
        refine H17.setF (i := 2) rfl (by simp) ?_; intro w18 g18 H18
        have f18 := f17.tr g18 (by simp)
        refine ⟨f18.keeps, ?_⟩
        refine H18.set (i := 2) rfl (by simp) ?_; intro w19 H19
        refine H19.ldS (i := 1) rfl rfl ?_
        have hrc := H19.capI (i := 3) rfl
        refine ⟨⟨by omega, by omega⟩, ?_⟩ -- max
        refine ⟨⟨by omega, by omega⟩, ?_⟩ -- hi
        refine H19.set (i := 1) rfl (by simp) ?_; clear H19; intro w20 H20
        refine H20.drew ?_; clear H20; intro w21 H21
        refine ⟨fun x => x < w21.heap.size ∧ x ∉ [b1], ?_⟩
        have f21 := Fr.refl [b1] w21
        refine H21.ld (i := 0) rfl rfl ?_
        refine ⟨⟨H21.lt (i := 0) rfl rfl, nin1 (H21.ne (i := 0) (j := 1) rfl rfl (by decide) rfl rfl)⟩, ?_⟩
        refine H21.ld (i := 0) rfl rfl ?_
        refine segment_begins_ct.mono ?_ -- (.int .i64 p_1)
        rintro _ w22 ⟨rfl, hb22⟩; have H22 := H21.pass hb22
        refine ⟨_, rfl, ?_⟩
        have f22 := f21.tr (hb22.fr []) (by simp)
        refine ⟨f22.keeps, ?_⟩
        refine segment_Part_ct.mono ?_ -- (.bool r2), (.bool false)
        rintro _ w23 ⟨rfl, hb23⟩; have H23 := H22.pass hb23
        refine ⟨_, rfl, ?_⟩
        have f23 := f22.tr (hb23.fr []) (by simp)
        refine ⟨f23.keeps, ?_⟩
        refine segment_Ends_ct.mono ?_ -- (.int .i64 p_1)
        rintro _ w24 ⟨rfl, hb24⟩; have H24 := H23.pass hb24
        refine ⟨_, rfl, ?_⟩
        have f24 := f23.tr (hb24.fr []) (by simp)
        refine ⟨f24.keeps, ?_⟩
        refine segment_Part_ct.mono ?_ -- (.bool false), (.bool r4)
        rintro _ w25 ⟨rfl, hb25⟩; have H25 := H24.pass hb25
        refine ⟨_, rfl, ?_⟩
        have f25 := f24.tr (hb25.fr []) (by simp)
        refine ⟨f25.keeps, ?_⟩
        refine H25.setF (i := 1) rfl (by simp) ?_; intro w26 g26 H26
        have f26 := f25.tr g26 (by simp)
        refine ⟨f26.keeps, ?_⟩
        refine H26.set (i := 2) rfl (by simp) ?_; intro w27 H27
        simp only [List.cons_append, List.nil_append, List.set_cons_zero, List.set_cons_succ] at H27
        refine H27.drew ?_; clear H27; intro w28 H28
        refine ⟨fun _ => True, ?_⟩
        have k28 := KeepsB.refl (fun _ => True) w28
        refine ⟨_, _, _, _, _, _, _, H28.cells (i := 1) rfl, ?_⟩
        refine ⟨trivial, ?_⟩
        refine ⟨_, _, _, _, _, _, _, H28.cells (i := 2) rfl, ?_⟩
        refine H28.storeK (i := 1) rfl rfl ?_; intro w29 k29 H29
        replace k29 := keepT k28 k29
        refine ⟨k29, ?_⟩
        refine H29.storeK (i := 2) rfl rfl ?_; intro w30 k30 H30
        replace k30 := keepT k29 k30
        refine ⟨k30, ?_⟩
        refine ⟨_, _, _, _, _, _, _, H30.cells (i := 1) rfl, ?_⟩
        refine ⟨_, _, _, _, _, _, _, H30.cells (i := 2) rfl, ?_⟩
        have hc1 := H30.capI (i := 4) rfl
        have H30 := H30.shareI (i := 3) rfl
        have H30 := H30.shareI (i := 4) rfl
        have el : k - 0 = (d.take k).length := by simp; omega
        refine ⟨slAddr k 0 1 r_a, k - 0, r_a1, r_c1, by rw [el]; exact Nat.le_refl _, hc1, ?_, H30.fin.imp fun _ h => ⟨h.2.1.pre _ _, h.1⟩⟩
        rw [← el]
theorem ref18_Cut_ct (hs : SlR (IntC .u8) 1 w p_4_a d) (hl : d.length ≤ 140737488355000) (hcap : d.length ≤ p_4_c) (hsz : -9223372036854775808 ≤ size ∧ size ≤ 9223372036854775807) :
    Calls Try.prog N_ref18_Cut #[(.int .i64 bits), (.agg #[.int .i64 p_0, .int .i64 p_1, .int .i64 p_2, .int .i64 p_3, .slice p_4_a d.length p_4_c]), (.int .i64 size)] w
      (RetPP w (cutP bits ⟨p_0, p_1, p_2, p_3, d⟩ size).1 (cutP bits ⟨p_0, p_1, p_2, p_3, d⟩ size).2.1 (cutP bits ⟨p_0, p_1, p_2, p_3, d⟩ size).2.2) := by
  apply F_ref18_Cut_ok
  unfold F_ref18_Cut
  have H := St.nil w
  have hh := headN_cases p_1
  refine H.alloc ?_; clear H; intro b w1 H1
  refine H1.alloc ?_; clear H1; intro b1 w2 H2
  refine H2.alloc ?_; clear H2; intro b2 w3 H3
  refine ⟨_, _, _, _, _, _, _, H3.cells (i := 0) rfl, ?_⟩
  refine (ref18_Valid_ct (by omega)).mono ?_ -- (.int .i64 bits), (.agg #[.int .i64 p_0, .int .i64 p_1, .int .i64 p_2, .int .i64 p_3, .slice p_4_a p_4_l p_4_c])
  rintro _ w4 ⟨rfl, hb4⟩; have H4 := H3.pass hb4; clear H3
  refine ⟨_, rfl, ?_⟩
  refine bsplit_nd (fun c5 => ?_) (fun c5 => ?_) --  (!r)
  · refine H4.store (i := 1) rfl (by rfl) (by rfl) ?_; clear H4; intro w5 H5
    refine H5.store (i := 2) rfl (by rfl) (by rfl) ?_; clear H5; intro w6 H6
    refine ⟨_, _, _, _, _, _, _, H6.cells (i := 1) rfl, ?_⟩
    refine ⟨_, _, _, _, _, _, _, H6.cells (i := 2) rfl, ?_⟩
    have e0 : cutP bits ⟨p_0, p_1, p_2, p_3, d⟩ size = (.zero, .zero, 1) := if_pos c5
    rw [e0]
    exact .zero H6.below _
  · refine H4.ld (i := 0) rfl rfl ?_
    refine ref18_Head_ct.mono ?_ -- (.int .i64 p_1)
    rintro _ w7 ⟨rfl, hb7⟩; have H7 := H4.pass hb7; clear H4
    refine ⟨_, rfl, ?_⟩
    refine kW_i64 (by omega) ?_ -- r1 + (1 : Int)
    refine bsplit_dec (fun c4 => ?_) (fun c4 => ?_) --  (decide (size < (r1 + (1 : Int))))
    · refine H7.store (i := 1) rfl (by rfl) (by rfl) ?_; clear H7; intro w8 H8
      refine H8.store (i := 2) rfl (by rfl) (by rfl) ?_; clear H8; intro w9 H9
      refine ⟨_, _, _, _, _, _, _, H9.cells (i := 1) rfl, ?_⟩
      refine ⟨_, _, _, _, _, _, _, H9.cells (i := 2) rfl, ?_⟩
      have e0 : cutP bits ⟨p_0, p_1, p_2, p_3, d⟩ size = (.zero, .zero, 15) := (if_neg (not_not_intro c5)).trans (if_pos c4)
      rw [e0]
      exact .zero H9.below _
    · refine H7.ldS (i := 0) rfl rfl ?_
      refine kW_i64 (by omega) ?_ -- r1 + (p_4_l : Int)
      refine bsplit_dec (fun c3 => ?_) (fun c3 => ?_) --  (decide (size ≥ (r1 + (p_4_l : Int))))
      · refine H7.ldS (i := 0) rfl rfl ?_
        have H7 := H7.nilI Ty_uint8 .u8
        refine H7.appI (i := 3) rfl sl_Ty_S_uint8 (hs.below H7.below) (by simp; omega) (by simp; omega) ?_; intro x_a2 x_c2 w10 H10 --! append (.slice none 0 0) (.slice p_4_a p_4_l p_4_c)
        rw [List.nil_append] at H10 ⊢
        refine H10.set (i := 0) rfl (by simp) ?_; clear H10; intro w11 H11
        refine ⟨_, _, _, _, _, _, _, H11.cells (i := 0) rfl, ?_⟩
        refine H11.store (i := 1) rfl (by rfl) (by rfl) ?_; clear H11; intro w12 H12
        refine H12.store (i := 2) rfl (by rfl) (by rfl) ?_; clear H12; intro w13 H13
        refine ⟨_, _, _, _, _, _, _, H13.cells (i := 1) rfl, ?_⟩
        refine ⟨_, _, _, _, _, _, _, H13.cells (i := 2) rfl, ?_⟩
        have e0 : cutP bits ⟨p_0, p_1, p_2, p_3, d⟩ size = (⟨p_0, p_1, p_2, p_3, d⟩, .zero, 0) := (if_neg (not_not_intro c5)).trans ((if_neg c4).trans (if_pos c3))
        rw [e0]
        exact ⟨x_a2, x_c2, none, 0, H13.capI (i := 3) rfl, Nat.le_refl _, rfl, ((H13.shareI (i := 3) rfl).fin).imp fun _ h => ⟨h.1, .nil⟩⟩
      · obtain ⟨k, hk⟩ : ∃ k, k = (size - (headN p_1 : Nat)).toNat := ⟨_, rfl⟩
        have e0 : cutP bits ⟨p_0, p_1, p_2, p_3, d⟩ size = (⟨p_0, partOf (begins p_1) false, p_2, p_3, d.take k⟩, ⟨p_0, partOf false (ends p_1), p_2, p_3 + (size - headN p_1), d.drop k⟩, 0) := by
          rw [hk]; exact (if_neg (not_not_intro c5)).trans ((if_neg c4).trans (if_neg c3))
        rw [e0]
        have hoff := c5.2.2.2.2.2
        refine kW_i64 (by omega) ?_ -- size - r1
        refine ⟨fun first rest w23 => ∃ b3 b4, first = ⟨b3, 0, none⟩ ∧ rest = ⟨b4, 0, none⟩ ∧ St (fun _ => False) [] w w23 [.blk b Ty_api_Piece [(.int .i64 p_0), (.int .i64 p_1), (.int .i64 p_2), (.int .i64 p_3), (.slice p_4_a d.length p_4_c)], .blk b1 Ty_api_Piece [(.int .i64 (0 : Int)), (.int .i64 (0 : Int)), (.int .i64 (0 : Int)), (.int .i64 (0 : Int)), (.slice none 0 0)], .blk b2 Ty_api_Piece [(.int .i64 (0 : Int)), (.int .i64 (0 : Int)), (.int .i64 (0 : Int)), (.int .i64 (0 : Int)), (.slice none 0 0)],
            .blk b3 Ty_api_Piece [(.int .i64 p_0), (.int .i64 p_1), (.int .i64 p_2), (.int .i64 p_3), (.slice p_4_a d.length p_4_c)], .blk b4 Ty_api_Piece [(.int .i64 p_0), (.int .i64 p_1), (.int .i64 p_2), (.int .i64 p_3), (.slice p_4_a d.length p_4_c)]] (fun _ => True), ?_, ?_⟩
        · rintro _ _ _ w23 ⟨b3, b4, rfl, rfl, H23⟩
          refine H23.ldS (i := 0) rfl rfl ?_
          refine ⟨⟨by omega, by omega⟩, ?_⟩ -- hi
          have hx1 : (d.take k).length = (size - (headN p_1 : Nat)).toNat - 0 := by simp; omega
          rw [← hx1]
          have H23 := H23.nilI Ty_uint8 .u8
          refine H23.appI (i := 5) rfl sl_Ty_S_uint8 ((hs.below H23.below).pre _ _) (by simp; omega) (by simp; omega) ?_; intro x_a4 x_c4 w24 H24 --! append (.slice none 0 0) (.slice (slAddr p_4_c 0 1 p_4_a) ((size - r1).toNat - 0) (p_4_c - 0))
          rw [List.nil_append] at H24 ⊢
          refine H24.set (i := 3) rfl (by simp) ?_; clear H24; intro w25 H25
          refine H25.ldS (i := 0) rfl rfl ?_
          refine ⟨⟨by omega, by omega⟩, ?_⟩ -- lo
          have hx2 : (d.drop k).length = d.length - (size - (headN p_1 : Nat)).toNat := by simp; omega
          rw [← hx2, ← hk]
          have H25 := H25.nilI Ty_uint8 .u8
          refine H25.appI (i := 6) rfl sl_Ty_S_uint8 ((hs.below H25.below).tail hcap) (by simp; omega) (by simp; omega) ?_; intro x_a6 x_c6 w26 H26 --! append (.slice none 0 0) (.slice (slAddr p_4_c ((size - r1).toNat) 1 p_4_a) (p_4_l - (size - r1).toNat) (p_4_c - (size - r1).toNat))
          rw [List.nil_append] at H26 ⊢
          refine H26.set (i := 4) rfl (by simp) ?_; clear H26; intro w27 H27
          refine H27.ld (i := 0) rfl rfl ?_
          refine kW_i64 (by omega) ?_ -- p_3 + (size - r1)
          refine H27.set (i := 4) rfl (by simp) ?_; clear H27; intro w28 H28
          refine ⟨fun  w33 => St (fun _ => False) [] w w33 [.blk b Ty_api_Piece [(.int .i64 p_0), (.int .i64 p_1), (.int .i64 p_2), (.int .i64 p_3), (.slice p_4_a d.length p_4_c)], .blk b1 Ty_api_Piece [(.int .i64 (0 : Int)), (.int .i64 (0 : Int)), (.int .i64 (0 : Int)), (.int .i64 (0 : Int)), (.slice none 0 0)], .blk b2 Ty_api_Piece [(.int .i64 (0 : Int)), (.int .i64 (0 : Int)), (.int .i64 (0 : Int)), (.int .i64 (0 : Int)), (.slice none 0 0)],
            .blk b3 Ty_api_Piece [(.int .i64 p_0), (.int .i64 (partOf (begins p_1) false)), (.int .i64 p_2), (.int .i64 p_3), (.slice x_a4 (d.take k).length x_c4)], .blk b4 Ty_api_Piece [(.int .i64 p_0), (.int .i64 (partOf false (ends p_1))), (.int .i64 p_2), (.int .i64 (p_3 + (size - (headN p_1 : Nat)))), (.slice x_a6 (d.drop k).length x_c6)], .ints Ty_uint8 .u8 x_a4 x_c4 (d.take k), .ints Ty_uint8 .u8 x_a6 x_c6 (d.drop k)] (fun _ => True), ?_, ?_⟩
          · rintro _  w33 H33
            refine H33.drew ?_; clear H33; intro w34 H34
            refine ⟨fun x => x < w34.heap.size ∧ x ∉ [b1, b2], ?_⟩
            have f34 := Fr.refl [b1, b2] w34
            refine ⟨_, _, _, _, _, _, _, H34.cells (i := 3) rfl, ?_⟩ --! load first : ('agg', [('int', 'i64'), ('int', 'i64'), ('int', 'i64'), ('int', 'i64'), ('slice',)]) as [('x_04', 'Int'), ('x_14', 'Int'), ('x_24', 'Int'), ('x_34', 'Int'), ('x_4_a4', 'Option Addr'), ('x_4_l4', 'Nat'), ('x_4_c4', 'Nat')]
            refine ⟨⟨H34.lt (i := 4) rfl rfl, nin2 (H34.ne (i := 4) (j := 1) rfl rfl (by decide) rfl rfl) (H34.ne (i := 4) (j := 2) rfl rfl (by decide) rfl rfl)⟩, ?_⟩ --!
            refine ⟨_, _, _, _, _, _, _, H34.cells (i := 4) rfl, ?_⟩ --! load rest : ('agg', [('int', 'i64'), ('int', 'i64'), ('int', 'i64'), ('int', 'i64'), ('slice',)]) as [('x_05', 'Int'), ('x_15', 'Int'), ('x_25', 'Int'), ('x_35', 'Int'), ('x_4_a5', 'Option Addr'), ('x_4_l5', 'Nat'), ('x_4_c5', 'Nat')]
            refine H34.storeF (i := 1) rfl (by rfl) (by rfl) ?_; intro w35 g35 H35
            have f35 := f34.tr g35 (by simp)
            refine ⟨f35.keeps, ?_⟩
            refine H35.storeF (i := 2) rfl (by rfl) (by rfl) ?_; intro w36 g36 H36
            have f36 := f35.tr g36 (by simp)
            refine ⟨f36.keeps, ?_⟩
            refine ⟨_, _, _, _, _, _, _, H36.cells (i := 1) rfl, ?_⟩
            refine ⟨_, _, _, _, _, _, _, H36.cells (i := 2) rfl, ?_⟩
            have k1 := H36.capI (i := 5) rfl
            have k2 := H36.capI (i := 6) rfl
            have H36 := H36.shareI (i := 5) rfl
            have H36 := H36.shareI (i := 6) rfl
            exact ⟨x_a4, x_c4, x_a6, x_c6, k1, k2, rfl, H36.fin.imp fun _ h => ⟨h.2.1, h.1⟩⟩
          · refine H28.ld (i := 0) rfl rfl ?_
            refine kLet_in ?_
            refine bsplit_dec (fun c2 => ?_) (fun c2 => ?_) --  (decide (p_1 = (0 : Int)))
            · refine H28.set (i := 3) rfl (by simp) ?_; clear H28; intro w29 H29
              refine H29.set (i := 4) rfl (by simp) ?_; clear H29; intro w30 H30
              subst c2; exact H30 --! J1 
            · refine kLet_in ?_
              refine bsplit_dec (fun c1 => ?_) (fun c1 => ?_) --  (decide (p_1 = (1 : Int)))
              · refine H28.set (i := 4) rfl (by simp) ?_; clear H28; intro w31 H31
                subst c1; exact H31 --! J1 
              · refine kLet_in ?_
                refine bsplit_dec (fun c => ?_) (fun c => ?_) --  (decide (p_1 = (2 : Int)))
                · refine H28.set (i := 3) rfl (by simp) ?_; clear H28; intro w32 H32
                  subst c; exact H32 --! J1 
                · have c3 : p_1 = 3 := by have := c5.2.2.1; omega
                  subst c3; exact H28 --! J1 
        · refine H7.drew ?_; clear H7; intro w14 H14
          refine ⟨(· < w14.heap.size), ?_⟩
          refine ⟨H14.lt (i := 0) rfl rfl, ?_⟩
          refine ⟨_, _, _, _, _, _, _, H14.cells (i := 0) rfl, ?_⟩
          refine ⟨H14.lt (i := 0) rfl rfl, ?_⟩
          refine ⟨_, _, _, _, _, _, _, H14.cells (i := 0) rfl, ?_⟩
          refine ⟨?_, ?_, trivial⟩ --! fork
          · refine H14.allocN ?_; intro b3 w15 hN3 hb15 H15
            refine ⟨hb15.keeps, ?_⟩
            refine H15.allocN ?_; intro b4 w16 hN4 hb16 H16
            have hb16 := below_step hb15 (Nat.le_refl _) hb16
            refine ⟨hb16.keeps, ?_⟩
            refine H16.storeF (i := 3) rfl (by rfl) (by rfl) ?_; intro w17 g17 H17
            have hb17 := hb16.frs g17 (by simp [hN3]) hb16.size
            refine ⟨hb17.keeps, ?_⟩
            refine H17.store (i := 4) rfl (by rfl) (by rfl) ?_; intro w18 H18
            exact ⟨b3, b4, rfl, rfl, H18⟩ --! J ⟨b3, 0, none⟩ ⟨b4, 0, none⟩
          · refine H14.allocN ?_; intro b5 w19 hN5 hb19 H19
            refine ⟨hb19.keeps, ?_⟩
            refine H19.allocN ?_; intro b6 w20 hN6 hb20 H20
            have hb20' := below_step hb19 (Nat.le_refl _) hb20
            refine ⟨hb20'.keeps, ?_⟩
            refine H20.storeF (i := 4) rfl (by rfl) (by rfl) ?_; intro w21 g21 H21
            have hb21 := hb20'.frs g21 (by have := hb19.size; simp [hN6]; omega) hb20'.size
            refine ⟨hb21.keeps, ?_⟩
            refine H21.store (i := 3) rfl (by rfl) (by rfl) ?_; intro w22 H22
            refine ⟨b6, b5, rfl, rfl, ?_⟩ --! J ⟨b6, 0, none⟩ ⟨b5, 0, none⟩
            refine H22.sub (fun i => [0, 1, 2, 4, 3].getD i 0) ?_ (by intro i j hi hj; simp only [List.length_cons, List.length_nil] at hi hj; rcases i with _ | _ | _ | _ | _ | i <;> rcases j with _ | _ | _ | _ | _ | j <;> simp <;> omega)
            rintro (_ | _ | _ | _ | _ | _) r h <;> first | exact h | cases h
end
end Go.Proofs.Ytmhggobilcmdmaa
namespace Go.Proofs.Ytmhggobilcmdmaa
open Go.Sx Go.RowKit

def encR (x : Rg) : List Value := [.int .i64 x.sn, .int .i64 x.f, .int .i64 x.t]
theorem encR_ok : Enc encR 3 := ⟨fun _ => rfl, fun _ => rfl⟩
theorem eqP_range {x y : Operand} {a b : Rg} {F : Bool → Prop} (h : F (decide (a ≠ b))) : EqP Try.prog .neq Ty_api_Range x y (.agg #[.int .i64 a.sn, .int .i64 a.f, .int .i64 a.t]) (.agg #[.int .i64 b.sn, .int .i64 b.f, .int .i64 b.t]) F := by
  refine eqP_ints (k' := .i64) (e := Ty_int) (xs := [a.sn, a.f, a.t]) (ys := [b.sn, b.f, b.t]) (by kernel_rfl) (by kernel_rfl) (by kernel_rfl) (by kernel_rfl) (by kernel_rfl) (by kernel_rfl) rfl ?_
  have e : (!decide ([a.sn, a.f, a.t] = [b.sn, b.f, b.t])) = decide (a ≠ b) := by
    rw [← decide_not, decide_eq_decide]
    cases a; cases b; simp
  rw [e]; exact h
section
variable {l_a b_a : Option Addr} {l m : List Rg} {l_c b_c : Nat} {k : Int} {w : World}
theorem segment_Normal_ct (hs : SlR (CE encR) 3 w l_a l) (hl : l.length ≤ 140737488355328) :
    Calls Try.prog N_segment_Normal #[(.slice l_a l.length l_c)] w fun e w' => e = .returned (.bool (normB (-1) l)) ∧ Below w.heap.size w w' := by
  apply F_segment_Normal_ok
  unfold F_segment_Normal
  have H := St.nil w
  refine ⟨fun x => ((l.length - x).toNat, fun w1 => ∃ k : Nat, k ≤ l.length ∧ x = k ∧ normB (-1) l = normB (prevT l k) (l.drop k) ∧ -1 ≤ prevT l k ∧ FreshR w w1 []), ⟨0, by omega, rfl, rfl, Int.le_refl _, H⟩, ?_⟩ --! I (0 : Int)
  clear H
  rintro _ x w1 ⟨k, hk, rfl, hI, hpv, H1⟩
  refine bsplit_dec (fun c4 => ?_) (fun c4 => ?_) --  (decide (x < (l_l : Int)))
  · have hlt : k < l.length := by omega
    rw [normB_drop _ _ _ hlt] at hI
    have hp : prevT l k = -1 ∨ 0 < k := by rcases k with _ | k <;> simp [prevT]
    refine ixE (hs.belowE H1.below) k rfl hlt fun b s hsk hb => ?_
    obtain rfl : l[k] = s := by rw [List.getElem?_eq_getElem hlt] at hsk; injection hsk
    refine ⟨_, _, _, hb, ?_⟩
    refine H1.alloc ?_; clear H1; intro b1 w2 H2
    refine H2.store (i := 0) rfl (by rfl) (by rfl) ?_; clear H2; intro w3 H3
    refine H3.drew ?_; clear H3; intro w4 H4
    have no : (l[k].f < 0 ∨ l[k].f ≥ l[k].t ∨ (0 < k ∧ l[k].f ≤ prevT l k)) → normB (-1) l = false := fun h => by
      rw [hI, decide_eq_false, Bool.false_and]
      rintro ⟨h1, h2⟩
      rcases h with h | h | h
      · omega
      · omega
      · omega
    have go : ∀ {w5 : World}, St (fun _ => False) [] w w5 [.blk b1 Ty_api_Range (encR l[k])] (fun _ => True) → 0 ≤ l[k].f → l[k].f < l[k].t → (0 < k → prevT l k < l[k].f) → ∃ k2 : Nat, k2 ≤ l.length ∧ (k : Int) + 1 = k2 ∧ normB (-1) l = normB (prevT l k2) (l.drop k2) ∧ -1 ≤ prevT l k2 ∧ FreshR w w5 [] := fun H5 h1 h2 h3 => by
      refine ⟨k + 1, by omega, by omega, ?_, by rw [prevT_succ hlt]; omega, H5.fin⟩
      rw [hI, prevT_succ hlt, decide_eq_true, Bool.true_and]
      refine ⟨?_, h2⟩
      rcases hp with hp | hp
      · omega
      · exact h3 hp
    refine H4.ld (i := 0) rfl rfl ?_
    refine bsplit_dec (fun c3 => ?_) (fun c3 => ?_) --  (decide (x_1 < (0 : Int)))
    · exact ⟨by rw [no (.inl c3)], H4.below⟩ --! (.bool false)
    refine H4.ld (i := 0) rfl rfl ?_
    refine H4.ld (i := 0) rfl rfl ?_
    refine bsplit_dec (fun c2 => ?_) (fun c2 => ?_) --  (decide (x_1 ≥ x_2))
    · exact ⟨by rw [no (.inr (.inl c2))], H4.below⟩ --! (.bool false)
    refine bsplit_dec (fun c1 => ?_) (fun c1 => ?_) --  (decide (x > (0 : Int)))
    · refine H4.ld (i := 0) rfl rfl ?_
      refine kW_i64 (by omega) ?_ -- x - (1 : Int)
      refine ixE (hs.belowE H4.below) (k - 1) (by omega) (by omega) fun b s hsk hb => ?_
      refine ld_at hb 2 rfl ?_
      have hs2 : s.t = prevT l k := by
        rcases k with _ | k
        · omega
        · simp only [Nat.add_sub_cancel] at hsk
          simp [prevT, hsk]
      refine bsplit_dec (fun c => ?_) (fun c => ?_) --  (decide (x_1 ≤ x6))
      · exact ⟨by rw [no (.inr (.inr ⟨by omega, by rw [← hs2]; exact c⟩))], H4.below⟩ --! (.bool false)
      · refine kW_i64 (by omega) ?_ -- x + (1 : Int)
        exact ⟨go H4 (by omega) (by omega) fun _ => by omega, by dsimp only; omega⟩ --! I (x + (1 : Int))
    · refine kW_i64 (by omega) ?_ -- x + (1 : Int)
      exact ⟨go H4 (by omega) (by omega) fun h => by omega, by dsimp only; omega⟩ --! I (x + (1 : Int))
  · obtain rfl : k = l.length := by omega
    rw [List.drop_length] at hI
    exact ⟨by rw [hI]; rfl, H1.below⟩ --! (.bool true)
theorem ref18_SameRanges_ct (hs : SlR (CE encR) 3 w l_a l) (hm : SlR (CE encR) 3 w b_a m) (hl : l.length ≤ 140737488355328) :
    Calls Try.prog N_ref18_SameRanges #[(.slice l_a l.length l_c), (.slice b_a m.length b_c)] w fun e w' => e = .returned (.bool (decide (l = m))) ∧ Below w.heap.size w w' := by
  apply F_ref18_SameRanges_ok
  unfold F_ref18_SameRanges
  have H := St.nil w
  refine bsplit_nd (fun c2 => ?_) (fun c2 => ?_) --  (!decide ((a_l : Int) = (b_l : Int)))
  · exact ⟨retF (fun h => by subst h; omega), H.below⟩ --! (.bool false)
  · have hlen : l.length = m.length := by omega
    refine ⟨fun i => ((l.length - i).toNat, fun w1 => ∃ k : Nat, k ≤ l.length ∧ i = k ∧ l.take k = m.take k ∧ FreshR w w1 []), ⟨0, by omega, rfl, rfl, H⟩, ?_⟩ --! I (0 : Int)
    clear H
    rintro _ i w1 ⟨k, hk, rfl, hI, H1⟩
    refine bsplit_dec (fun c1 => ?_) (fun c1 => ?_) --  (decide (i < (a_l : Int)))
    · have hlt : k < l.length := by omega
      have hlt2 : k < m.length := by omega
      refine H1.drew ?_; clear H1; intro w2 H2
      refine ixE (hs.belowE H2.below) k rfl hlt fun b s hsk hb => ?_
      obtain rfl : l[k] = s := by rw [List.getElem?_eq_getElem hlt] at hsk; injection hsk
      refine ⟨_, _, _, hb, ?_⟩
      refine ixE (hm.belowE H2.below) k rfl hlt2 fun b' s hsk hb' => ?_
      obtain rfl : m[k] = s := by rw [List.getElem?_eq_getElem hlt2] at hsk; injection hsk
      refine ⟨_, _, _, hb', ?_⟩
      refine eqP_range ?_
      refine bsplit_dec (fun c => ?_) (fun c => ?_) --  r
      · exact ⟨retF (fun e => c (by subst e; rfl)), H2.below⟩ --! (.bool false)
      · refine kW_i64 (by omega) ?_ -- i + (1 : Int)
        refine ⟨⟨k + 1, by omega, by omega, ?_, H2⟩, by dsimp only; omega⟩ --! I (i + (1 : Int))
        rw [List.take_add_one, List.take_add_one, hI, List.getElem?_eq_getElem hlt, List.getElem?_eq_getElem hlt2, Decidable.not_not.1 c]
    · obtain rfl : k = l.length := by omega
      rw [List.take_length, hlen, List.take_length] at hI
      exact ⟨retT hI, H1.below⟩ --! (.bool true)
end
end Go.Proofs.Ytmhggobilcmdmaa
namespace Go.Proofs.Ytmhggobilcmdmaa
open Go.Sx Go.RowKit

/-- what a function returns that makes ranges, or an error -/
def RetG (w : World) (l : List Rg) (er : Int) : Ending → World → Prop := fun e w' => ∃ a c, l.length ≤ c ∧ e = .returned (.tuple #[.slice a l.length c, .int .i64 er]) ∧ Fresh w w' fun w => SlR (CE encR) 3 w a l
theorem RetG.nil {w w' : World} (b : Below w.heap.size w w') (er : Int) : RetG w [] er (.returned (.tuple #[.slice none 0 0, .int .i64 er])) w' :=
  ⟨none, 0, Nat.le_refl _, rfl, ((St.nil w).pass b).imp fun _ _ => .inl rfl⟩
theorem RetG.of {w w' : World} {R : List Res} {P : World → Prop} (H : St (fun _ => False) [] w w' R P) {i : Nat} {a : Option Addr} {c : Nat} {l : List Rg} (hi : R[i]? = some (.els encR Ty_api_Range 3 a c l)) (er : Int) :
    RetG w l er (.returned (.tuple #[.slice a l.length c, .int .i64 er])) w' := ⟨a, c, H.capE hi, rfl, (H.freshRow hi).imp fun _ h => els_sl encR_ok h⟩
section
variable {l_a : Option Addr} {l : List Rg} {l_c : Nat} {w : World} {sn len : Int}
theorem ref18_Normal_ct (hs : SlR (CE encR) 3 w l_a l) (hl : l.length ≤ 140737488355328) :
    Calls Try.prog N_ref18_Normal #[(.slice l_a l.length l_c)] w fun e w' => e = .returned (.bool (normB (-1) l)) ∧ Below w.heap.size w w' := by
  apply F_ref18_Normal_ok
  unfold F_ref18_Normal
  have H := St.nil w
  refine ⟨fun x => ((l.length - x).toNat, fun w1 => ∃ k : Nat, k ≤ l.length ∧ x = k ∧ normB (-1) l = normB (prevT l k) (l.drop k) ∧ -1 ≤ prevT l k ∧ FreshR w w1 []), ⟨0, by omega, rfl, rfl, Int.le_refl _, H⟩, ?_⟩ --! I (0 : Int)
  clear H
  rintro _ x w1 ⟨k, hk, rfl, hI, hpv, H1⟩
  refine bsplit_dec (fun c4 => ?_) (fun c4 => ?_) --  (decide (x < (l_l : Int)))
  · have hlt : k < l.length := by omega
    rw [normB_drop _ _ _ hlt] at hI
    have hp : prevT l k = -1 ∨ 0 < k := by rcases k with _ | k <;> simp [prevT]
    have no : (l[k].f < 0 ∨ l[k].f ≥ l[k].t ∨ (0 < k ∧ l[k].f ≤ prevT l k)) → normB (-1) l = false := fun h => by
      rw [hI, decide_eq_false, Bool.false_and]
      rintro ⟨h1, h2⟩
      rcases h with h | h | h
      · omega
      · omega
      · omega
    have go : ∀ {w5 : World}, St (fun _ => False) [] w w5 [] (fun _ => True) → 0 ≤ l[k].f → l[k].f < l[k].t → (0 < k → prevT l k < l[k].f) → ∃ k2 : Nat, k2 ≤ l.length ∧ (k : Int) + 1 = k2 ∧ normB (-1) l = normB (prevT l k2) (l.drop k2) ∧ -1 ≤ prevT l k2 ∧ FreshR w w5 [] := fun H5 h1 h2 h3 => by
      refine ⟨k + 1, by omega, by omega, ?_, by rw [prevT_succ hlt]; omega, H5⟩
      rw [hI, prevT_succ hlt, decide_eq_true, Bool.true_and]
      refine ⟨?_, h2⟩
      rcases hp with hp | hp
      · omega
      · exact h3 hp
    refine H1.drew ?_; clear H1; intro w2 H2
    have rd : ∀ {F : Addr → Prop}, (∀ b, cellsAt w2 (b.add ((k : Int).toNat * 3)) 0 (encR l[k]) → F b) → kIx l_a l.length (k : Int) F := fun h => by
      refine ixE (hs.belowE H2.below) k rfl hlt fun b s hsk hb => ?_
      obtain rfl : l[k] = s := by rw [List.getElem?_eq_getElem hlt] at hsk; injection hsk
      exact h b hb
    refine rd fun b hb => ld_at hb 1 rfl ?_
    refine bsplit_dec (fun c3 => ?_) (fun c3 => ?_) --  (decide (x < (0 : Int)))
    · exact ⟨by rw [no (.inl c3)], H2.below⟩ --! (.bool false)
    refine rd fun b hb => ld_at hb 1 rfl ?_
    refine rd fun b hb => ld_at hb 2 rfl ?_
    refine bsplit_dec (fun c2 => ?_) (fun c2 => ?_) --  (decide (x1 ≥ x2))
    · exact ⟨by rw [no (.inr (.inl c2))], H2.below⟩ --! (.bool false)
    refine bsplit_dec (fun c1 => ?_) (fun c1 => ?_) --  (decide (i > (0 : Int)))
    · refine rd fun b hb => ld_at hb 1 rfl ?_
      refine kW_i64 (by omega) ?_ -- i - (1 : Int)
      refine ixE (hs.belowE H2.below) (k - 1) (by omega) (by omega) fun b s hsk hb => ?_
      refine ld_at hb 2 rfl ?_
      have hs2 : s.t = prevT l k := by
        rcases k with _ | k
        · omega
        · simp only [Nat.add_sub_cancel] at hsk
          simp [prevT, hsk]
      refine bsplit_dec (fun c => ?_) (fun c => ?_) --  (decide (x3 ≤ x5))
      · exact ⟨by rw [no (.inr (.inr ⟨by omega, by rw [← hs2]; exact c⟩))], H2.below⟩ --! (.bool false)
      · refine kW_i64 (by omega) ?_ -- i + (1 : Int)
        exact ⟨go H2 (by omega) (by omega) fun _ => by omega, by dsimp only; omega⟩ --! I (i + (1 : Int))
    · refine kW_i64 (by omega) ?_ -- i + (1 : Int)
      exact ⟨go H2 (by omega) (by omega) fun h => by omega, by dsimp only; omega⟩ --! I (i + (1 : Int))
  · obtain rfl : k = l.length := by omega
    rw [List.drop_length] at hI
    exact ⟨by rw [hI]; rfl, H1.below⟩ --! (.bool true)
theorem clone_ranges (hs : SlR (CE encR) 3 w l_a l) (hl : l.length ≤ 1000000) :
    Calls Try.prog N_slices_Clone_Sapi_Range_api_Range #[(.slice l_a l.length l_c)] w fun e w' => ∃ a c, e = .returned (.slice a l.length c) ∧ FreshR w w' [.els encR Ty_api_Range 3 a c l] := by
  apply F_slices_Clone_Sapi_Range_api_Range_ok
  unfold F_slices_Clone_Sapi_Range_api_Range
  have H := St.nil w
  cases l_a with
  | none =>
    obtain rfl : l = [] := by
      rcases hs with h | ⟨b, hb, _⟩
      · exact h
      · cases hb
    exact ⟨none, 0, rfl, H.nilE encR Ty_api_Range 3⟩
  | some p =>
    refine bsplit_intro (fun h => by cases h) (fun _ => ?_)
    refine H.alloc ?_; clear H; intro b w1 H1
    have H1 := H1.litE encR_ok (i := 0) [] rfl (by decide)
    refine H1.appE encR_ok (i := 0) rfl sl_Ty_S_api_Range (hs.belowE H1.below) (by simp; omega) (by simp; omega) ?_; intro x_a x_c w2 H2
    exact ⟨x_a, x_c, rfl, H2⟩ --! (.slice x_a x_l x_c)
end
end Go.Proofs.Ytmhggobilcmdmaa
/- Bits of numbers: which are valid. -/
namespace Go.Proofs.Ytmhggobilcmdmaa
open Go.Sx Go.RowKit
end Go.Proofs.Ytmhggobilcmdmaa
/- Numbers modulo a power of two. -/
namespace Go.Sx
open Go.RowKit
theorem bAnd_any {x : Int} (k : Nat) (hk : k ≤ 62) {m : Int} (hm : m = 2 ^ k - 1) : bAnd .i64 x m = x % 2 ^ k := by
  have h1 : (2 : Nat) ^ k ≤ 2 ^ 62 := Nat.pow_le_pow_right (by decide) hk
  have h2 : 0 < (2 : Nat) ^ k := Nat.pow_pos (by decide)
  have e1 : bAnd .i64 x m = bAnd .i64 (((x % 18446744073709551616).toNat : Nat) : Int) m := by
    have hx : BitVec.ofInt 64 x = BitVec.ofInt 64 (((x % 18446744073709551616).toNat : Nat) : Int) := by
      apply BitVec.eq_of_toNat_eq
      rw [BitVec.toNat_ofInt, BitVec.toNat_ofInt]
      have := Int.emod_nonneg x (show (18446744073709551616 : Int) ≠ 0 by decide)
      rw [Int.toNat_of_nonneg this]
      show (x % 18446744073709551616).toNat = (x % 18446744073709551616 % 18446744073709551616).toNat
      rw [Int.emod_emod]
    unfold bAnd
    show IntKind.wrap .i64 ((BitVec.ofInt 64 x &&& _).toNat : Int) = IntKind.wrap .i64 ((BitVec.ofInt 64 _ &&& _).toNat : Int)
    rw [hx]
  rw [e1]
  rw [pow_cast] at hm ⊢
  have hm2 : m = ((2 ^ k - 1 : Nat) : Int) := by omega
  subst hm2
  have hx0 := Int.emod_nonneg x (show (18446744073709551616 : Int) ≠ 0 by decide)
  have hx1 := Int.emod_lt_of_pos x (show (0 : Int) < 18446744073709551616 by decide)
  rw [bAnd_nat .i64 _ _ (by show _ < 2 ^ 64; omega) (by show _ < 2 ^ 64; omega), Nat.and_two_pow_sub_one_eq_mod]
  have := Nat.mod_lt (x % 18446744073709551616).toNat h2
  rw [wrap_id _ (by omega), Int.natCast_emod, Int.toNat_of_nonneg hx0]
  refine Int.emod_emod_of_dvd _ ?_
  have : (18446744073709551616 : Int) = ((2 ^ 64 : Nat) : Int) := by decide
  rw [this]
  exact Int.natCast_dvd_natCast.2 (Nat.pow_dvd_pow 2 (by omega))
theorem wrap_mod (e : Int) (k : Nat) (hk : k ≤ 62) : IntKind.wrap .i64 e % 2 ^ k = e % 2 ^ k := by
  have hd : (2 : Int) ^ k ∣ 18446744073709551616 := by
    have : (18446744073709551616 : Int) = ((2 ^ 64 : Nat) : Int) := by decide
    rw [this, pow_cast]
    exact Int.natCast_dvd_natCast.2 (Nat.pow_dvd_pow 2 (by omega))
  have e0 : ∃ q : Int, IntKind.wrap .i64 e = e + 18446744073709551616 * q := by
    have h := Int.emod_add_mul_ediv e 18446744073709551616
    by_cases hc : e % 18446744073709551616 ≥ 9223372036854775808
    · refine ⟨-(e / 18446744073709551616) - 1, ?_⟩
      have : IntKind.wrap .i64 e = e % 18446744073709551616 - 18446744073709551616 := if_pos (decide_eq_true hc)
      rw [this]; omega
    · refine ⟨-(e / 18446744073709551616), ?_⟩
      have : IntKind.wrap .i64 e = e % 18446744073709551616 := if_neg (fun h' => hc (of_decide_eq_true h'))
      rw [this]; omega
  obtain ⟨q, hq⟩ := e0
  obtain ⟨d, hd⟩ := hd
  rw [hq, hd, Int.mul_assoc, Int.add_mul_emod_self_left]
/-- the way from a to b -/
def way (n a b : Int) : Int := (b - a) % 2 ^ n.toNat
theorem way_range (n a b : Int) : 0 ≤ way n a b ∧ way n a b < 2 ^ n.toNat := by
  have : (0 : Int) < 2 ^ n.toNat := by rw [pow_cast]; have := Nat.pow_pos (n := n.toNat) (show 0 < 2 by decide); omega
  exact ⟨Int.emod_nonneg _ (by omega), Int.emod_lt_of_pos _ this⟩
end Go.Sx
namespace Go.Proofs.Ytmhggobilcmdmaa
open Go.Sx Go.RowKit

section
variable {n x a b : Int} {w : World}
theorem serial_valid_ct :
    Calls Try.prog N_serial_valid #[(.int .i64 n)] w fun e w' => e = .returned (.bool (decide (1 ≤ n ∧ n ≤ 32))) ∧ Below w.heap.size w w' := by
  apply F_serial_valid_ok
  unfold F_serial_valid
  have H := St.nil w
  refine bsplit_dec (fun c => ?_) (fun c => ?_) --  (decide (n ≥ (1 : Int)))
  · refine kLet_in ?_
    exact ⟨retD (by omega), H.below⟩
  · exact ⟨retF (by omega), H.below⟩
theorem serial_Low_ct :
    Calls Try.prog N_serial_Low #[(.int .i64 n), (.int .i64 x)] w fun e w' => e = .returned (.int .i64 (if 1 ≤ n ∧ n ≤ 32 then x % 2 ^ n.toNat else -1)) ∧ Below w.heap.size w w' := by
  apply F_serial_Low_ok
  unfold F_serial_Low
  have H := St.nil w
  refine serial_valid_ct.mono ?_ -- (.int .i64 n)
  rintro _ w1 ⟨rfl, hb1⟩; have H1 := H.pass hb1; clear H
  refine ⟨_, rfl, ?_⟩
  refine bsplit_nd (fun c => ?_) (fun c => ?_) --  (!r)
  · exact ⟨by rw [if_neg c], H1.below⟩ --! (.int .i64 (-1 : Int))
  · have hp := pow62 (n := n.toNat) (by omega)
    refine ⟨by omega, ?_⟩
    refine kShl1 (by omega) ?_
    refine kW_i64 (by omega) ?_ -- (2 ^ n.toNat) - (1 : Int)
    refine kLet_intro fun x3 hx3 => ?_ --! bAnd .i64 x ((2 ^ n.toNat) - (1 : Int))
    rw [bAnd_any n.toNat (by omega) rfl] at hx3
    exact ⟨by rw [if_pos c, hx3], H1.below⟩ --! (.int .i64 x3)
theorem serial_Distance_ct :
    Calls Try.prog N_serial_Distance #[(.int .i64 n), (.int .i64 a), (.int .i64 b)] w fun e w' => e = .returned (.int .i64 (if 1 ≤ n ∧ n ≤ 32 then way n a b else -1)) ∧ Below w.heap.size w w' := by
  apply F_serial_Distance_ok
  unfold F_serial_Distance
  have H := St.nil w
  refine kW_intro fun y hy => ?_ -- b - a
  refine serial_Low_ct.mono ?_ -- (.int .i64 n), (.int .i64 (b - a))
  rintro _ w1 ⟨rfl, hb1⟩; have H1 := H.pass hb1; clear H
  refine ⟨_, rfl, ?_⟩
  refine ⟨?_, H1.below⟩ --! (.int .i64 r)
  by_cases c : 1 ≤ n ∧ n ≤ 32
  · rw [if_pos c, if_pos c, hy, wrap_mod _ _ (by omega)]; rfl
  · rw [if_neg c, if_neg c]
end
section
variable {n x a b : Int} {w : World}
theorem ref02_valid_ct :
    Calls Try.prog N_ref02_valid #[(.int .i64 n)] w fun e w' => e = .returned (.bool (decide (1 ≤ n ∧ n ≤ 32))) ∧ Below w.heap.size w w' := by
  apply F_ref02_valid_ok
  unfold F_ref02_valid
  have H := St.nil w
  refine bsplit_dec (fun c => ?_) (fun c => ?_) --  (decide (n ≥ (1 : Int)))
  · refine kLet_in ?_
    exact ⟨retD (by omega), H.below⟩
  · exact ⟨retF (by omega), H.below⟩
theorem ref02_Low_ct :
    Calls Try.prog N_ref02_Low #[(.int .i64 n), (.int .i64 x)] w fun e w' => e = .returned (.int .i64 (if 1 ≤ n ∧ n ≤ 32 then x % 2 ^ n.toNat else -1)) ∧ Below w.heap.size w w' := by
  apply F_ref02_Low_ok
  unfold F_ref02_Low
  have H := St.nil w
  refine ref02_valid_ct.mono ?_ -- (.int .i64 n)
  rintro _ w1 ⟨rfl, hb1⟩; have H1 := H.pass hb1; clear H
  refine ⟨_, rfl, ?_⟩
  refine bsplit_nd (fun c => ?_) (fun c => ?_) --  (!r)
  · exact ⟨by rw [if_neg c], H1.below⟩ --! (.int .i64 (-1 : Int))
  · have hp := pow62 (n := n.toNat) (by omega)
    refine kW_u64 (by omega) ?_ -- n
    refine ⟨by omega, ?_⟩
    refine kShl1 (by omega) ?_
    refine kW_i64 (by omega) ?_ -- (2 ^ n.toNat) - (1 : Int)
    refine kLet_intro fun x3 hx3 => ?_ --! bAnd .i64 x ((2 ^ n.toNat) - (1 : Int))
    rw [bAnd_any n.toNat (by omega) rfl] at hx3
    exact ⟨by rw [if_pos c, hx3], H1.below⟩ --! (.int .i64 x3)
theorem ref02_Distance_ct :
    Calls Try.prog N_ref02_Distance #[(.int .i64 n), (.int .i64 a), (.int .i64 b)] w fun e w' => e = .returned (.int .i64 (if 1 ≤ n ∧ n ≤ 32 then way n a b else -1)) ∧ Below w.heap.size w w' := by
  apply F_ref02_Distance_ok
  unfold F_ref02_Distance
  have H := St.nil w
  refine ref02_valid_ct.mono ?_ -- (.int .i64 n)
  rintro _ w1 ⟨rfl, hb1⟩; have H1 := H.pass hb1; clear H
  refine ⟨_, rfl, ?_⟩
  refine bsplit_nd (fun c => ?_) (fun c => ?_) --  (!r)
  · exact ⟨by rw [if_neg c], H1.below⟩ --! (.int .i64 (-1 : Int))
  · have hp := pow62 (n := n.toNat) (by omega)
    refine ref02_Low_ct.mono ?_ -- (.int .i64 n), (.int .i64 b)
    rintro _ w2 ⟨rfl, hb2⟩; have H2 := H1.pass hb2; clear H1
    refine ⟨_, rfl, ?_⟩
    refine ref02_Low_ct.mono ?_ -- (.int .i64 n), (.int .i64 a)
    rintro _ w3 ⟨rfl, hb3⟩; have H3 := H2.pass hb3; clear H2
    refine ⟨_, rfl, ?_⟩
    rw [if_pos c, if_pos c]
    have ra : 0 ≤ a % 2 ^ n.toNat ∧ a % 2 ^ n.toNat < 2 ^ n.toNat := ⟨Int.emod_nonneg _ (by omega), Int.emod_lt_of_pos _ (by omega)⟩
    have rb : 0 ≤ b % 2 ^ n.toNat ∧ b % 2 ^ n.toNat < 2 ^ n.toNat := ⟨Int.emod_nonneg _ (by omega), Int.emod_lt_of_pos _ (by omega)⟩
    refine kW_i64 (by omega) ?_ -- r1 - r2
    refine kW_u64 (by omega) ?_ -- n
    refine ⟨by omega, ?_⟩
    refine kShl1 (by omega) ?_
    refine kW_i64 (by omega) ?_ -- (2 ^ n.toNat) - (1 : Int)
    refine kLet_intro fun x4 hx4 => ?_ --! bAnd .i64 (r1 - r2) ((2 ^ n.toNat) - (1 : Int))
    rw [bAnd_any n.toNat (by omega) rfl] at hx4
    refine ⟨?_, H3.below⟩ --! (.int .i64 x4)
    rw [if_pos c, hx4]
    unfold way
    rw [← Int.sub_emod]
end
end Go.Proofs.Ytmhggobilcmdmaa
/- Ranges as elements of rows; whether two lists of them are the same. -/
namespace Go.Proofs.Ytmhggobilcmdmaa
open Go.Sx Go.RowKit
section
variable {l_a b_a : Option Addr} {l m : List Rg} {l_c b_c : Nat} {k : Int} {w : World}
end
end Go.Proofs.Ytmhggobilcmdmaa
/- Whether bytes are the same. -/
namespace Go.Proofs.Ytmhggobilcmdmaa
open Go.Sx Go.RowKit
theorem ref01_Same_ct {a b : Option Addr} {c1 c2 : Nat} {xs ys : List Int} {w : World} (ha : SlR (IntC .u8) 1 w a xs) (hb : SlR (IntC .u8) 1 w b ys) (hx : Bytes xs) (hy : Bytes ys) :
    Calls Try.prog N_ref01_Same #[.slice a xs.length c1, .slice b ys.length c2] w fun e w' => e = .returned (.bool (decide (xs = ys))) ∧ Below w.heap.size w w' := by
  apply F_ref01_Same_ok
  unfold F_ref01_Same
  refine convS_bytes (e := Ty_uint8) (by kernel_rfl) (by kernel_rfl) (by kernel_rfl) ha ?_
  refine convS_bytes (e := Ty_uint8) (by kernel_rfl) (by kernel_rfl) (by kernel_rfl) hb ?_
  refine ⟨?_, .refl _ _⟩
  rw [str_beq hx hy]
end Go.Proofs.Ytmhggobilcmdmaa
/- The dice's ranges. -/
namespace Go.Proofs.Ytmhggobilcmdmaa
open Go.Sx Go.RowKit
section
variable {g : Nat} {a : Option Addr} {c : Nat} {ts : List Int} {p : Nat} {w : World} {A : Nat → Prop} {P : World → Prop} {sn most : Int}
theorem made_Ranges_ct (hP : Held A w P) (hts : Rolls a ts P) (hB : (dice g a c ts p).ok w) (hn : ∀ b, (dice g a c ts p).at = some b → ¬ A b) (hp : p ≤ ts.length) (hm : 0 ≤ most ∧ most ≤ 6) :
    Calls Try.prog N_made_Dice_Ranges #[(.pointer (some ⟨g, 0, none⟩)), (.int .i64 sn), (.int .i64 most)] w fun e w' => ∃ ra rc L p', e = .returned (.slice ra L.length rc) ∧ (L.length : Int) ≤ most ∧ (∀ x ∈ L, x.sn = sn) ∧ normB (-1) L = true ∧ (∀ x ∈ L, x.t ≤ 62) ∧ p' ≤ ts.length ∧
      St A [g] w w' [dice g a c ts p', .els encR Ty_api_Range 3 ra rc L] P := by
  apply F_made_Dice_Ranges_ok
  unfold F_made_Dice_Ranges
  have H : St A [g] w w [dice g a c ts p] P := St.startM hP hB hn
  refine dNext H (i := 0) rfl hts hp (by omega) fun r p1 w1 _ hr hp1 H1 => ?_
  have hr := hr (by omega)
  refine kW_i64 (by omega) ?_ -- most + (1 : Int)
  refine dNext H1 (i := 0) rfl hts hp1 (by omega) fun r1 p2 w2 _ hr1 hp2 H2 => ?_
  have hr1 := hr1 (by omega)
  have H2 := H2.nilE encR Ty_api_Range 3
  refine ⟨fun l_a l_l l_c at1 n => (n.toNat, fun w3 => ∃ (L : List Rg) (p3 : Nat), l_l = L.length ∧ 0 ≤ n ∧ (L.length : Int) + n ≤ most ∧ (∀ x ∈ L, x.sn = sn) ∧ normB (-1) L = true ∧ lastT (-1) L < at1 ∧ 0 ≤ at1 ∧ at1 ≤ 2 + 10 * L.length ∧ (∀ x ∈ L, x.t ≤ 62) ∧ p3 ≤ ts.length ∧
    St A [g] w w3 [dice g a c ts p3, .els encR Ty_api_Range 3 l_a l_c L] P), ⟨[], p2, rfl, by omega, by simp; omega, fun x hx => by simp at hx, rfl, by simp only [lastT]; omega, by omega, by simp; omega, fun x hx => by simp at hx, hp2, H2⟩, ?_⟩ --! I none 0 0 r r1
  clear H H1 H2
  rintro _ l_a l_l l_c at1 n w3 ⟨L, p3, rfl, hn0, hnl, hsn, hno, hla, ha0, hal, hL, hp3, H3⟩
  refine bsplit_dec (fun c => ?_) (fun c => ?_) --  (decide (n > (0 : Int)))
  · refine kW_i64 (by omega) ?_ -- at1 + (1 : Int)
    refine dNext H3 (i := 0) rfl hts hp3 (by omega) fun r2 p4 w4 _ hr2 hp4 H4 => ?_
    have hr2 := hr2 (by omega)
    refine kW_i64 (by omega) ?_ -- (at1 + (1 : Int)) + r2
    refine H4.alloc ?_; clear H4; intro b w5 H5
    refine H5.appEB encR_ok (i := 1) (j := 2) rfl [⟨sn, at1, at1 + 1 + r2⟩] rfl sl_Ty_S_api_Range rfl (by simp; omega) (by simp; omega) ?_; intro x_a x_c w6 H6
    refine kW_i64 (by omega) ?_ -- ((at1 + (1 : Int)) + r2) + (1 : Int)
    refine dNext H6 (i := 0) rfl hts hp4 (by omega) fun r3 p5 w7 _ hr3 hp5 H7 => ?_
    have hr3 := hr3 (by omega)
    refine kW_i64 (by omega) ?_ -- (((at1 + (1 : Int)) + r2) + (1 : Int)) + r3
    refine kW_i64 (by omega) ?_ -- n - (1 : Int)
    refine ⟨⟨L ++ [⟨sn, at1, at1 + 1 + r2⟩], p5, rfl, by omega, by simp; omega, fun x hx => ?_, normB_snoc _ _ _ hno hla (by simp only; omega), by rw [lastT_snoc]; simp only; omega, by omega, by simp; omega, fun x hx => ?_, hp5, H7.sub (fun i => i) ?_ (fun _ _ _ _ h => h)⟩, by dsimp only; omega⟩ --! I
    · rcases List.mem_append.1 hx with hx | hx
      · exact hsn x hx
      · simp at hx; subst hx; rfl
    · rcases List.mem_append.1 hx with hx | hx
      · exact hL x hx
      · simp at hx; subst hx; simp only; omega
    · rintro (_ | _ | _) r h <;> first | exact h | cases h
  · exact ⟨_, _, L, p3, rfl, by omega, hsn, hno, hL, hp3, H3⟩ --! (.slice l_a l_l l_c)
end
end Go.Proofs.Ytmhggobilcmdmaa
/- Chapter 19, plain: reports; no program in sight. -/
namespace Go.Sx
structure Stt where
  upto : Int
  miss : List Rg
deriving DecidableEq
def Stt.zero : Stt := ⟨0, []⟩
def whole (r : Rg) : Prop := r.f = 0 ∧ r.t = 0
instance (r : Rg) : Decidable (whole r) := inferInstanceAs (Decidable (_ ∧ _))
def isPart (r : Rg) : Prop := 0 ≤ r.f ∧ r.f < r.t ∧ r.t ≤ 65535
instance (r : Rg) : Decidable (isPart r) := inferInstanceAs (Decidable (_ ∧ _))
def szR (r : Rg) : Int := if whole r then 2 else 6
/-- a range by itself -/
def ownR (b u : Int) (r : Rg) : Prop := (0 ≤ r.sn ∧ r.sn < 2 ^ b.toNat) ∧ (1 ≤ way b r.sn u ∧ way b r.sn u ≤ 2 ^ (b - 1).toNat) ∧ (whole r ∨ isPart r)
instance (b u : Int) (r : Rg) : Decidable (ownR b u r) := inferInstanceAs (Decidable (_ ∧ _))
/-- a range behind another one -/
def linkR (b u : Int) (q r : Rg) : Prop := way b r.sn u ≤ way b q.sn u ∧ (way b r.sn u = way b q.sn u → ¬ (whole q ∨ whole r ∨ r.f ≤ q.t))
instance (b u : Int) (q r : Rg) : Decidable (linkR b u q r) := inferInstanceAs (Decidable (_ ∧ _))
def linkO (b u : Int) : Option Rg → Rg → Prop
  | none, _ => True
  | some q, r => linkR b u q r
instance (b u : Int) (p : Option Rg) (r : Rg) : Decidable (linkO b u p r) := by cases p <;> unfold linkO <;> infer_instance
def chainB (b u : Int) : Option Rg → List Rg → Bool
  | _, [] => true
  | p, r :: l => decide (ownR b u r ∧ linkO b u p r) && chainB b u (some r) l
def okS (b : Int) (s : Stt) : Prop := bitsOk b ∧ (0 ≤ s.upto ∧ s.upto < 2 ^ b.toNat) ∧ s.miss.length ≤ 64 ∧ chainB b s.upto none s.miss = true
instance (b : Int) (s : Stt) : Decidable (okS b s) := inferInstanceAs (Decidable (_ ∧ _))
def prevR (l : List Rg) : Nat → Option Rg
  | 0 => none
  | k + 1 => l[k]?
theorem chain_step (b u : Int) {l : List Rg} {k : Nat} (h : k < l.length) : chainB b u (prevR l k) (l.drop k) = (decide (ownR b u l[k] ∧ linkO b u (prevR l k) l[k]) && chainB b u (prevR l (k + 1)) (l.drop (k + 1))) := by
  rw [List.drop_eq_getElem_cons h]
  simp only [chainB, prevR, List.getElem?_eq_getElem h]
def beforeOf (b u : Int) (l : List Rg) (k : Nat) : Int := match prevR l k with | none => 2 ^ (b - 1).toNat + 1 | some q => way b q.sn u
/-- the bytes of a number of two bytes -/
def be16 (x : Int) : List Int := [x / 256 % 256, x % 256]
def encB (r : Rg) : List Int := if whole r then be16 (16 * r.sn) else be16 (16 * r.sn + 1) ++ (be16 r.f ++ be16 r.t)
def bytesS (s : Stt) : List Int := be16 s.upto ++ ((s.miss.length : Int) % 256) :: s.miss.flatMap encB
def encS (b : Int) (s : Stt) : List Int × Int := if okS b s then (bytesS s, 0) else ([], 1)
def rdR : Nat → List Int → Option (List Rg)
  | 0, _ => some []
  | n + 1, x :: y :: l => if (256 * x + y) % 16 = 1 then (match l with
      | p :: q :: r :: s :: l => (rdR n l).map (⟨(256 * x + y) / 16, 256 * p + q, 256 * r + s⟩ :: ·)
      | _ => none) else (rdR n l).map (⟨(256 * x + y) / 16, 0, 0⟩ :: ·)
  | _, _ => none
def rdS : List Int → Option Stt
  | x :: y :: n :: l => (rdR n.toNat l).map (⟨256 * x + y, ·⟩)
  | _ => none
def decS (b : Int) (l : List Int) : Stt × Int :=
  if ¬ bitsOk b then (.zero, 3) else match rdS l with
    | none => (.zero, 5)
    | some s => if okS b s ∧ bytesS s = l then (s, 0) else (.zero, 4)
def unitOf (k : Nat) (p : Option Rg) (unit : Nat) (r : Rg) : Nat := match p with | none => unit | some q => if r.sn ≠ q.sn then k else unit
def fitS (sp u : Int) (L : List Rg) : Nat → Int → Nat → Option Rg → List Rg → Stt
  | _, _, _, _, [] => ⟨u, L⟩
  | k, used, unit, p, r :: l =>
    if used + szR r > sp then ⟨r.sn, L.take (unitOf k p unit r)⟩ else fitS sp u L (k + 1) (used + szR r) (unitOf k p unit r) (some r) l
def fitR (b : Int) (s : Stt) (sp : Int) : Stt × Int :=
  if ¬ okS b s then (.zero, 1) else if sp < 3 then (.zero, 15) else (fitS sp s.upto s.miss 0 3 0 none s.miss, 0)
theorem pow_bits1 {b : Int} (h : bitsOk b) : (2 : Int) ^ b.toNat = 2 * 2 ^ (b - 1).toNat ∧ (16 : Int) ≤ 2 ^ (b - 1).toNat ∧ (2 : Int) ^ (b - 1).toNat ≤ 256 := by
  obtain ⟨h1, h2⟩ := h
  rcases (show b = 5 ∨ b = 6 ∨ b = 7 ∨ b = 8 ∨ b = 9 by omega) with rfl | rfl | rfl | rfl | rfl <;> decide
end Go.Sx
namespace Go.Proofs.Ytmhggobilcmdmaa
open Go.Sx Go.RowKit

section
variable {r : Rg} {w : World}
theorem status_Whole_ct :
    Calls Try.prog N_status_Whole #[(.agg #[.int .i64 r.sn, .int .i64 r.f, .int .i64 r.t])] w fun e w' => e = .returned (.bool (decide (whole r))) ∧ Below w.heap.size w w' := by
  apply F_status_Whole_ok
  unfold F_status_Whole
  have H := St.nil w
  refine H.alloc ?_; clear H; intro b w1 H1
  refine H1.ld (i := 0) rfl rfl ?_
  refine bsplit_dec (fun c => ?_) (fun c => ?_) --  (decide (r_1 = (0 : Int)))
  · refine H1.ld (i := 0) rfl rfl ?_
    refine kLet_in ?_
    exact ⟨retD (by unfold whole; omega), H1.below⟩ --! (.bool (decide (r_2 = (0 : Int))))
  · exact ⟨retF (by unfold whole; omega), H1.below⟩ --! (.bool false)
theorem status_part_ct :
    Calls Try.prog N_status_part #[(.agg #[.int .i64 r.sn, .int .i64 r.f, .int .i64 r.t])] w fun e w' => e = .returned (.bool (decide (isPart r))) ∧ Below w.heap.size w w' := by
  apply F_status_part_ok
  unfold F_status_part
  have H := St.nil w
  refine H.alloc ?_; clear H; intro b w1 H1
  refine H1.ld (i := 0) rfl rfl ?_
  refine bsplit_dec (fun c1 => ?_) (fun c1 => ?_) --  (decide (r_1 ≥ (0 : Int)))
  · refine H1.ld (i := 0) rfl rfl ?_
    refine H1.ld (i := 0) rfl rfl ?_
    refine bsplit_dec (fun c => ?_) (fun c => ?_) --  (decide (r_1 < r_2))
    · refine H1.ld (i := 0) rfl rfl ?_
      refine kLet_in ?_
      exact ⟨retD (by unfold isPart; omega), H1.below⟩ --! (.bool (decide (r_2 ≤ (65535 : Int))))
    · exact ⟨retF (by unfold isPart; omega), H1.below⟩ --! (.bool false)
  · exact ⟨retF (by unfold isPart; omega), H1.below⟩ --! (.bool false)
end
section
variable {bits u : Int} {l_a : Option Addr} {l : List Rg} {l_c : Nat} {w : World}
theorem status_Valid_ct (hs : SlR (CE encR) 3 w l_a l) (hl : l.length ≤ 140737488355328) :
    Calls Try.prog N_status_Valid #[(.int .i64 bits), (.agg #[.int .i64 u, .slice l_a l.length l_c])] w fun e w' => e = .returned (.bool (decide (okS bits ⟨u, l⟩))) ∧ Below w.heap.size w w' := by
  apply F_status_Valid_ok
  unfold F_status_Valid
  have H := St.nil w
  refine H.alloc ?_; clear H; intro b w1 H1
  have no : ∀ {w' : World} {R : List Res} {P : World → Prop}, ¬ okS bits ⟨u, l⟩ → St (fun _ => False) [] w w' R P → Ending.returned (.bool false) = .returned (.bool (decide (okS bits ⟨u, l⟩))) ∧ Below w.heap.size w w' := fun h H' => ⟨retF h, H'.below⟩
  refine ⟨fun w4 => bitsOk bits ∧ (0 ≤ u ∧ u < 2 ^ bits.toNat) ∧ l.length ≤ 64 ∧ FreshR w w4 [.blk b Ty_api_Status [(.int .i64 u), (.slice l_a l.length l_c)]], ?_, ?_⟩ --!
  · rintro _  w4 ⟨hb, hu, hll, H4⟩
    have hp := pow_bits1 hb
    have hb5 := hb.1; have hb9 := hb.2
    refine kW_i64 (by omega) ?_ -- bits - (1 : Int)
    refine ⟨by omega, ?_⟩
    refine kShl1 (by omega) ?_
    refine kW_i64 (by omega) ?_ -- (2 ^ (bits - (1 : Int)).toNat) + (1 : Int)
    refine H4.ldS (i := 0) rfl rfl ?_
    refine ⟨fun before x6 => ((l.length - x6).toNat, fun w5 => ∃ k : Nat, k ≤ l.length ∧ x6 = k ∧ before = beforeOf bits u l k ∧ chainB bits u none l = chainB bits u (prevR l k) (l.drop k) ∧ FreshR w w5 [.blk b Ty_api_Status [(.int .i64 u), (.slice l_a l.length l_c)]]), ⟨0, by omega, rfl, rfl, rfl, H4⟩, ?_⟩ --! I ((2 ^ (bits - (1 : Int)).toNat) + (1 : Int)) (0 : Int)
    clear H4
    rintro _ before x6 w5 ⟨k, hk, rfl, rfl, hI, H5⟩
    refine bsplit_dec (fun c16 => ?_) (fun c16 => ?_) --  (decide (x6 < (s_1_l : Int)))
    · have hlt : k < l.length := by omega
      rw [chain_step _ _ hlt] at hI
      have bad : ¬ (ownR bits u l[k] ∧ linkO bits u (prevR l k) l[k]) → ¬ okS bits ⟨u, l⟩ := fun h h' => by
        have := h'.2.2.2
        simp only at this
        rw [hI, decide_eq_false h, Bool.false_and] at this
        cases this
      refine ixE (hs.belowE H5.below) k rfl hlt fun b1 r hr hb1 => ?_
      obtain rfl : l[k] = r := by rw [List.getElem?_eq_getElem hlt] at hr; injection hr
      refine ⟨_, _, _, hb1, ?_⟩
      refine H5.alloc ?_; clear H5; intro b2 w6 H6
      refine H6.store (i := 1) rfl (by rfl) (by rfl) ?_; clear H6; intro w7 H7
      refine H7.ld (i := 1) rfl rfl ?_
      refine H7.ld (i := 0) rfl rfl ?_
      refine serial_Distance_ct.mono ?_ -- (.int .i64 bits), (.int .i64 x_0), (.int .i64 s_0)
      rintro _ w8 ⟨rfl, hb8⟩; have H8 := H7.pass hb8; clear H7
      refine ⟨_, rfl, ?_⟩
      rw [if_pos (by omega)]
      obtain ⟨d, hd⟩ : ∃ d, d = way bits l[k].sn u := ⟨_, rfl⟩
      have hown : ownR bits u l[k] ↔ (0 ≤ l[k].sn ∧ l[k].sn < 2 ^ bits.toNat) ∧ (1 ≤ d ∧ d ≤ 2 ^ (bits - 1).toNat) ∧ (whole l[k] ∨ isPart l[k]) := by rw [hd]; exact Iff.rfl
      have hbef : ownR bits u l[k] → linkO bits u (prevR l k) l[k] → d ≤ beforeOf bits u l k := fun h1 h2 => by
        unfold beforeOf
        unfold linkO at h2
        split
        · have := (hown.1 h1).2.1.2; omega
        · rename_i q hq
          simp only [hq] at h2
          rw [hd]; exact h2.1
      rw [← hd]
      refine ⟨fun x14 w12 => (x14 = true → ¬ (ownR bits u l[k] ∧ linkO bits u (prevR l k) l[k])) ∧ (x14 = false → ownR bits u l[k] ∧ d ≤ beforeOf bits u l k) ∧ FreshR w w12 [.blk b Ty_api_Status [(.int .i64 u), (.slice l_a l.length l_c)], .blk b2 Ty_api_Range (encR l[k])], ?_, ?_⟩ --!
      · rintro _ x14 w12 ⟨hj1, hj2, H12⟩
        refine bsplit_intro (fun c15 => ?_) (fun c15 => ?_) --  x14
        · exact no (bad (hj1 c15)) H12 --! (.bool false)
        obtain ⟨ho, hle⟩ := hj2 c15
        have good : linkO bits u (prevR l k) l[k] → chainB bits u none l = chainB bits u (prevR l (k + 1)) (l.drop (k + 1)) := fun h => by rw [hI, decide_eq_true ⟨ho, h⟩, Bool.true_and]
        have hbn : d = beforeOf bits u l (k + 1) := by simp [beforeOf, prevR, List.getElem?_eq_getElem hlt, hd]
        refine ⟨fun x15 w13 => x15 = decide (d = beforeOf bits u l k ∧ 0 < k) ∧ FreshR w w13 [.blk b Ty_api_Status [(.int .i64 u), (.slice l_a l.length l_c)], .blk b2 Ty_api_Range (encR l[k])], ?_, ?_⟩ --!
        · rintro _ x15 w13 ⟨hx15, H13⟩
          have next : ∀ {w' : World} {R : List Res}, linkO bits u (prevR l k) l[k] → FreshR w w' (.blk b Ty_api_Status [(.int .i64 u), (.slice l_a l.length l_c)] :: R) → (∃ k' : Nat, k' ≤ l.length ∧ (k : Int) + 1 = k' ∧ d = beforeOf bits u l k' ∧ chainB bits u none l = chainB bits u (prevR l k') (l.drop k') ∧ FreshR w w' [.blk b Ty_api_Status [(.int .i64 u), (.slice l_a l.length l_c)]]) ∧ (l.length - ((k : Int) + 1)).toNat < (l.length - (k : Int)).toNat := fun h H' =>
            ⟨⟨k + 1, by omega, by omega, hbn, good h, H'.sub (fun i => i) (by rintro (_ | _) r h <;> first | exact h | cases h) (fun _ _ _ _ h => h)⟩, by omega⟩
          refine bsplit_intro (fun c14 => ?_) (fun c14 => ?_) --  x15
          · rw [c14] at hx15
            obtain ⟨he, hk0⟩ := of_decide_eq_true hx15.symm
            obtain ⟨j, rfl⟩ : ∃ j, k = j + 1 := ⟨k - 1, by omega⟩
            have hjl : j < l.length := by omega
            have hprev : prevR l (j + 1) = some l[j] := by simp [prevR, List.getElem?_eq_getElem hjl]
            have hdq : d = way bits l[j].sn u := by rw [he]; simp [beforeOf, hprev]
            have hlk : linkO bits u (prevR l (j + 1)) l[j + 1] ↔ ¬ (whole l[j] ∨ whole l[j + 1] ∨ l[j + 1].f ≤ l[j].t) := by
              rw [hprev]
              show linkR _ _ _ _ ↔ _
              unfold linkR
              rw [← hd, ← hdq]
              exact ⟨fun h => h.2 rfl, fun h => ⟨Int.le_refl _, fun _ => h⟩⟩
            refine H13.ldS (i := 0) rfl rfl ?_
            refine kW_i64 (by omega) ?_ -- x6 - (1 : Int)
            refine ixE (hs.belowE H13.below) j (by omega) hjl fun b3 q hq hb3 => ?_
            obtain rfl : l[j] = q := by rw [List.getElem?_eq_getElem hjl] at hq; injection hq
            refine ⟨_, _, _, hb3, ?_⟩
            refine H13.alloc ?_; clear H13; intro b4 w14 H14
            refine H14.store (i := 2) rfl (by rfl) (by rfl) ?_; clear H14; intro w15 H15
            refine ⟨_, _, _, H15.cells (i := 2) rfl, ?_⟩
            refine status_Whole_ct.mono ?_ -- (.agg #[.int .i64 x_03, .int .i64 x_13, .int .i64 x_23])
            rintro _ w16 ⟨rfl, hb16⟩; have H16 := H15.pass hb16; clear H15
            refine ⟨_, rfl, ?_⟩
            refine bsplit_dec (fun c13 => ?_) (fun c13 => ?_) --  r4
            · exact no (bad fun h => hlk.1 h.2 (.inl c13)) H16 --! (.bool false)
            · refine ⟨_, _, _, H16.cells (i := 1) rfl, ?_⟩
              refine status_Whole_ct.mono ?_ -- (.agg #[.int .i64 x_0, .int .i64 x_1, .int .i64 x_2])
              rintro _ w17 ⟨rfl, hb17⟩; have H17 := H16.pass hb17; clear H16
              refine ⟨_, rfl, ?_⟩
              refine bsplit_dec (fun c12 => ?_) (fun c12 => ?_) --  r5
              · exact no (bad fun h => hlk.1 h.2 (.inr (.inl c12))) H17 --! (.bool false)
              · refine H17.ld (i := 1) rfl rfl ?_
                refine H17.ld (i := 2) rfl rfl ?_
                refine bsplit_dec (fun c11 => ?_) (fun c11 => ?_) --  (decide (x_1 ≤ x_23))
                · exact no (bad fun h => hlk.1 h.2 (.inr (.inr c11))) H17 --! (.bool false)
                · refine kW_i64 (by omega) ?_ -- x6 + (1 : Int)
                  exact next (hlk.2 fun h => by rcases h with h | h | h <;> contradiction) H17
          · have hlk : linkO bits u (prevR l k) l[k] := by
              rw [c14] at hx15
              have hne := of_decide_eq_false hx15.symm
              unfold linkO
              split
              · trivial
              · rename_i q hq
                have hk0 : 0 < k := by
                  cases k with
                  | zero => cases hq
                  | succ k => omega
                have hq2 : beforeOf bits u l k = way bits q.sn u := by simp [beforeOf, hq]
                rw [hq2] at hle hne
                exact ⟨by omega, fun h => by omega⟩
            refine kW_i64 (by omega) ?_ -- x6 + (1 : Int)
            exact next hlk H13 --! I r1 (x6 + (1 : Int))
        · refine bsplit_dec (fun c10 => ?_) (fun c10 => ?_) --  (decide (r1 = before))
          · exact ⟨by rw [decide_eq_decide]; omega, H12⟩ --! J2 (decide (x6 > (0 : Int)))
          · exact ⟨by rw [decide_eq_false]; intro h; exact c10 h.1, H12⟩ --! J2 false
      · refine H8.drew ?_; clear H8; intro w9 H9
        refine ⟨(· < w9.heap.size), ?_⟩
        have bad2 : ∀ {w' : World} {P : Prop}, (ownR bits u l[k] → linkO bits u (prevR l k) l[k] → False) → FreshR w w' [.blk b Ty_api_Status [(.int .i64 u), (.slice l_a l.length l_c)], .blk b2 Ty_api_Range (encR l[k])] →
            (true = true → ¬ (ownR bits u l[k] ∧ linkO bits u (prevR l k) l[k])) ∧ (true = false → ownR bits u l[k] ∧ d ≤ beforeOf bits u l k) ∧ FreshR w w' [.blk b Ty_api_Status [(.int .i64 u), (.slice l_a l.length l_c)], .blk b2 Ty_api_Range (encR l[k])] :=
          fun h H' => ⟨fun _ h' => h h'.1 h'.2, fun h => by (cases h), H'⟩
        refine H9.ld (i := 1) rfl rfl ?_
        refine bsplit_dec (fun c9 => ?_) (fun c9 => ?_) --  (decide (x_0 < (0 : Int)))
        · exact bad2 (P := True) (fun h _ => by have := (hown.1 h).1; omega) H9 --! J1 true
        · refine H9.ld (i := 1) rfl rfl ?_
          refine ⟨by omega, ?_⟩
          refine kShl1 (by omega) ?_
          refine bsplit_dec (fun c8 => ?_) (fun c8 => ?_) --  (decide (x_0 ≥ (2 ^ bits.toNat)))
          · exact bad2 (P := True) (fun h _ => by have := (hown.1 h).1; omega) H9 --! J1 true
          · refine bsplit_dec (fun c7 => ?_) (fun c7 => ?_) --  (decide (r1 < (1 : Int)))
            · exact bad2 (P := True) (fun h _ => by have := (hown.1 h).2; omega) H9 --! J1 true
            · refine bsplit_dec (fun c6 => ?_) (fun c6 => ?_) --  (decide (r1 > before))
              · exact bad2 (P := True) (fun h h2 => by have := hbef h h2; omega) H9 --! J1 true
              · refine kW_i64 (by omega) ?_ -- bits - (1 : Int)
                refine ⟨by omega, ?_⟩
                refine kShl1 (by omega) ?_
                refine bsplit_dec (fun c5 => ?_) (fun c5 => ?_) --  (decide (r1 > (2 ^ (bits - (1 : Int)).toNat)))
                · exact bad2 (P := True) (fun h _ => by have := (hown.1 h).2; omega) H9 --! J1 true
                · refine ⟨_, _, _, H9.cells (i := 1) rfl, ?_⟩
                  refine status_Whole_ct.mono ?_ -- (.agg #[.int .i64 x_0, .int .i64 x_1, .int .i64 x_2])
                  rintro _ w10 ⟨rfl, hb10⟩; have H10 := H9.pass hb10
                  refine ⟨_, rfl, ?_⟩
                  refine ⟨hb10.keeps, ?_⟩
                  refine bsplit_nd (fun c4 => ?_) (fun c4 => ?_) --  (!r2)
                  · refine ⟨H9.lt (i := 1) rfl rfl, ?_⟩
                    refine ⟨_, _, _, H9.cells (i := 1) rfl, ?_⟩
                    refine status_part_ct.mono ?_ -- (.agg #[.int .i64 x_0, .int .i64 x_1, .int .i64 x_2])
                    rintro _ w11 ⟨rfl, hb11⟩; have H11 := H10.pass hb11
                    refine ⟨_, rfl, ?_⟩
                    replace hb11 := below_step hb10 (Nat.le_refl _) hb11
                    refine ⟨hb11.keeps, ?_⟩
                    refine ⟨fun h h' => ?_, fun h => ⟨hown.2 ⟨by omega, by omega, .inr ?_⟩, by omega⟩, H11⟩ --! J1 (!r3)
                    · rcases (hown.1 h'.1).2.2 with h2 | h2
                      · exact c4 h2
                      · simp [h2] at h
                    · simpa using h
                  · exact ⟨fun h => (by cases h), fun _ => ⟨hown.2 ⟨by omega, by omega, .inl c4⟩, by omega⟩, H10⟩ --! J1 false
    · obtain rfl : k = l.length := by omega
      rw [List.drop_length] at hI
      exact ⟨retT ⟨hb, hu, hll, hI⟩, H5.below⟩ --! (.bool true)
  · refine H1.drew ?_; clear H1; intro w2 H2
    refine ⟨(· < w2.heap.size), ?_⟩
    refine counter_Bits_ct.mono ?_ -- (.int .i64 bits)
    rintro _ w3 ⟨rfl, hb3⟩; have H3 := H2.pass hb3
    refine ⟨_, rfl, ?_⟩
    refine ⟨hb3.keeps, ?_⟩
    refine bsplit_nd (fun c3 => ?_) (fun c3 => ?_) --  (!r)
    · exact no (fun h => c3 h.1) H3 --! (.bool false)
    · have hb5 := c3.1; have hb9 := c3.2
      refine ⟨H2.lt (i := 0) rfl rfl, ?_⟩
      refine H2.ld (i := 0) rfl rfl ?_
      refine bsplit_dec (fun c2 => ?_) (fun c2 => ?_) --  (decide (s_0 < (0 : Int)))
      · exact no (fun h => by have := h.2.1.1; simp only at this; omega) H3 --! (.bool false)
      · refine ⟨H2.lt (i := 0) rfl rfl, ?_⟩
        refine H2.ld (i := 0) rfl rfl ?_
        refine ⟨by omega, ?_⟩
        refine kShl1 (by omega) ?_
        refine bsplit_dec (fun c1 => ?_) (fun c1 => ?_) --  (decide (s_0 ≥ (2 ^ bits.toNat)))
        · exact no (fun h => by have := h.2.1.2; simp only at this; omega) H3 --! (.bool false)
        · refine ⟨H2.lt (i := 0) rfl rfl, ?_⟩
          refine H2.ldS (i := 0) rfl rfl ?_
          refine bsplit_dec (fun c => ?_) (fun c => ?_) --  (decide ((s_1_l : Int) > (64 : Int)))
          · exact no (fun h => by have := h.2.2.1; simp only at this; omega) H3 --! (.bool false)
          · exact ⟨c3, by omega, by omega, H3⟩ --! J 
end
end Go.Proofs.Ytmhggobilcmdmaa
namespace Go.Proofs.Ytmhggobilcmdmaa
open Go.Sx Go.RowKit
section
variable {bits u : Int} {l_a : Option Addr} {l : List Rg} {l_c : Nat} {w : World}
theorem ref19_Valid_ct (hs : SlR (CE encR) 3 w l_a l) (hl : l.length ≤ 140737488355328) :
    Calls Try.prog N_ref19_Valid #[(.int .i64 bits), (.agg #[.int .i64 u, .slice l_a l.length l_c])] w fun e w' => e = .returned (.bool (decide (okS bits ⟨u, l⟩))) ∧ Below w.heap.size w w' := by
  apply F_ref19_Valid_ok
  unfold F_ref19_Valid
  have H := St.nil w
  refine H.alloc ?_; clear H; intro b w1 H1
  have no : ∀ {w' : World} {R : List Res} {P : World → Prop}, ¬ okS bits ⟨u, l⟩ → St (fun _ => False) [] w w' R P → Ending.returned (.bool false) = .returned (.bool (decide (okS bits ⟨u, l⟩))) ∧ Below w.heap.size w w' := fun h H' => ⟨retF h, H'.below⟩
  refine ⟨fun w3 => bitsOk bits ∧ (0 ≤ u ∧ u < 2 ^ bits.toNat) ∧ l.length ≤ 64 ∧ FreshR w w3 [.blk b Ty_api_Status [(.int .i64 u), (.slice l_a l.length l_c)]], ?_, ?_⟩ --!
  · rintro _  w3 ⟨hb, hu, hll, H3⟩
    have hp := pow_bits1 hb
    have hb5 := hb.1; have hb9 := hb.2
    refine ⟨fun i => ((l.length - i).toNat, fun w4 => ∃ k : Nat, k ≤ l.length ∧ i = k ∧ chainB bits u none l = chainB bits u (prevR l k) (l.drop k) ∧ (∀ q, prevR l k = some q → ownR bits u q) ∧ FreshR w w4 [.blk b Ty_api_Status [(.int .i64 u), (.slice l_a l.length l_c)]]), ⟨0, by omega, rfl, rfl, fun q h => (by cases h), H3⟩, ?_⟩ --! I (0 : Int)
    clear H3
    rintro _ i w4 ⟨k, hk, rfl, hI, hprev, H4⟩
    refine H4.ldS (i := 0) rfl rfl ?_
    refine bsplit_dec (fun c19 => ?_) (fun c19 => ?_) --  (decide (i < (s_1_l : Int)))
    · have hlt : k < l.length := by omega
      rw [chain_step _ _ hlt] at hI
      have bad : ¬ (ownR bits u l[k] ∧ linkO bits u (prevR l k) l[k]) → ¬ okS bits ⟨u, l⟩ := fun h h' => by
        have := h'.2.2.2
        simp only at this
        rw [hI, decide_eq_false h, Bool.false_and] at this
        cases this
      refine H4.ldS (i := 0) rfl rfl ?_
      refine ixE (hs.belowE H4.below) k rfl hlt fun b1 r hr hb1 => ?_
      obtain rfl : l[k] = r := by rw [List.getElem?_eq_getElem hlt] at hr; injection hr
      refine ⟨_, _, _, hb1, ?_⟩
      refine H4.alloc ?_; clear H4; intro b2 w5 H5
      refine H5.store (i := 1) rfl (by rfl) (by rfl) ?_; clear H5; intro w6 H6
      refine H6.ld (i := 1) rfl rfl ?_
      refine H6.ld (i := 0) rfl rfl ?_
      refine ref02_Distance_ct.mono ?_ -- (.int .i64 bits), (.int .i64 x_0), (.int .i64 s_0)
      rintro _ w7 ⟨rfl, hb7⟩; have H7 := H6.pass hb7; clear H6
      refine ⟨_, rfl, ?_⟩
      rw [if_pos (by omega)]
      obtain ⟨d, hd⟩ : ∃ d, d = way bits l[k].sn u := ⟨_, rfl⟩
      have hown : ownR bits u l[k] ↔ (0 ≤ l[k].sn ∧ l[k].sn < 2 ^ bits.toNat) ∧ (1 ≤ d ∧ d ≤ 2 ^ (bits - 1).toNat) ∧ (whole l[k] ∨ isPart l[k]) := by rw [hd]; exact Iff.rfl
      rw [← hd]
      have next : ∀ {w' : World} {R : List Res}, ownR bits u l[k] → linkO bits u (prevR l k) l[k] → FreshR w w' (.blk b Ty_api_Status [(.int .i64 u), (.slice l_a l.length l_c)] :: R) → (∃ k' : Nat, k' ≤ l.length ∧ (k : Int) + 1 = k' ∧ chainB bits u none l = chainB bits u (prevR l k') (l.drop k') ∧ (∀ q, prevR l k' = some q → ownR bits u q) ∧ FreshR w w' [.blk b Ty_api_Status [(.int .i64 u), (.slice l_a l.length l_c)]]) ∧ (l.length - ((k : Int) + 1)).toNat < (l.length - (k : Int)).toNat := fun ho h H' =>
        ⟨⟨k + 1, by omega, by omega, by rw [hI, decide_eq_true ⟨ho, h⟩, Bool.true_and], fun q hq => by simp only [prevR, List.getElem?_eq_getElem hlt] at hq; injection hq with hq; subst hq; exact ho,
          H'.sub (fun i => i) (by rintro (_ | _) r h <;> first | exact h | cases h) (fun _ _ _ _ h => h)⟩, by omega⟩
      refine ⟨fun w8 => ((0 ≤ l[k].sn ∧ l[k].sn < 2 ^ bits.toNat) ∧ (1 ≤ d ∧ d ≤ 2 ^ (bits - 1).toNat)) ∧ FreshR w w8 [.blk b Ty_api_Status [(.int .i64 u), (.slice l_a l.length l_c)], .blk b2 Ty_api_Range (encR l[k])], ?_, ?_⟩ --!
      · rintro _  w8 ⟨hj, H8⟩
        refine ⟨fun wh w9 => wh = decide (whole l[k]) ∧ FreshR w w9 [.blk b Ty_api_Status [(.int .i64 u), (.slice l_a l.length l_c)], .blk b2 Ty_api_Range (encR l[k])], ?_, ?_⟩ --!
        · rintro _ wh w9 ⟨rfl, H9⟩
          refine ⟨fun w10 => ownR bits u l[k] ∧ FreshR w w10 [.blk b Ty_api_Status [(.int .i64 u), (.slice l_a l.length l_c)], .blk b2 Ty_api_Range (encR l[k])], ?_, ?_⟩ --!
          · rintro _  w10 ⟨ho, H10⟩
            refine bsplit_dec (fun c18 => ?_) (fun c18 => ?_) --  (decide (i = (0 : Int)))
            · refine kW_i64 (by omega) ?_ -- i + (1 : Int)
              obtain rfl : k = 0 := by omega
              exact next ho trivial H10 --! I (i + (1 : Int))
            · obtain ⟨j, rfl⟩ : ∃ j, k = j + 1 := ⟨k - 1, by omega⟩
              have hjl : j < l.length := by omega
              have hpr : prevR l (j + 1) = some l[j] := by simp [prevR, List.getElem?_eq_getElem hjl]
              have hoq := hprev _ hpr
              obtain ⟨dq, hdq⟩ : ∃ dq, dq = way bits l[j].sn u := ⟨_, rfl⟩
              have hlk : linkO bits u (prevR l (j + 1)) l[j + 1] ↔ d ≤ dq ∧ (d = dq → ¬ (whole l[j] ∨ whole l[j + 1] ∨ l[j + 1].f ≤ l[j].t)) := by
                rw [hpr, hd, hdq]; exact Iff.rfl
              have hw : whole l[j] ↔ l[j].t = 0 := by
                rcases hoq.2.2 with h | h
                · exact ⟨fun h => h.2, fun _ => h⟩
                · obtain ⟨h1, h2, _⟩ := h
                  exact ⟨fun h => h.2, fun h => by omega⟩
              refine H10.ldS (i := 0) rfl rfl ?_
              refine kW_i64 (by omega) ?_ -- i - (1 : Int)
              refine ixE (hs.belowE H10.below) j (by omega) hjl fun b3 q hq hb3 => ?_
              obtain rfl : l[j] = q := by rw [List.getElem?_eq_getElem hjl] at hq; injection hq
              refine ⟨_, _, _, hb3, ?_⟩
              refine H10.alloc ?_; clear H10; intro b4 w11 H11
              refine H11.store (i := 2) rfl (by rfl) (by rfl) ?_; clear H11; intro w12 H12
              refine H12.ld (i := 2) rfl rfl ?_
              refine H12.ld (i := 0) rfl rfl ?_
              refine ref02_Distance_ct.mono ?_ -- (.int .i64 bits), (.int .i64 x_01), (.int .i64 s_0)
              rintro _ w13 ⟨rfl, hb13⟩; have H13 := H12.pass hb13; clear H12
              refine ⟨_, rfl, ?_⟩
              rw [if_pos (by omega), ← hdq]
              refine ⟨fun x26 w14 => x26 = !decide (linkO bits u (prevR l (j + 1)) l[j + 1]) ∧ FreshR w w14 [.blk b Ty_api_Status [(.int .i64 u), (.slice l_a l.length l_c)], .blk b2 Ty_api_Range (encR l[j + 1]), .blk b4 Ty_api_Range (encR l[j])], ?_, ?_⟩ --!
              · rintro _ x26 w14 ⟨rfl, H14⟩
                refine bsplit_nd (fun c17 => ?_) (fun c17 => ?_) --  x26
                · exact no (bad fun h => c17 h.2) H14 --! (.bool false)
                · refine kW_i64 (by omega) ?_ -- i + (1 : Int)
                  exact next ho c17 H14 --! I (i + (1 : Int))
              · have t : ∀ {p : Prop} [Decidable p], ¬ p → true = !decide p := fun h => by simp [h]
                have f : ∀ {p : Prop} [Decidable p], p → false = !decide p := fun h => by simp [h]
                refine bsplit_dec (fun c16 => ?_) (fun c16 => ?_) --  (decide (r2 < r1))
                · exact ⟨t fun h => by have := (hlk.1 h).1; omega, H13⟩ --! J4 true
                · refine bsplit_dec (fun c15 => ?_) (fun c15 => ?_) --  (decide (r2 = r1))
                  · refine bsplit_dec (fun c14 => ?_) (fun c14 => ?_) --  whole1
                    · exact ⟨t fun h => (hlk.1 h).2 c15.symm (.inr (.inl c14)), H13⟩ --! J4 true
                    · refine H13.ld (i := 2) rfl rfl ?_
                      refine bsplit_dec (fun c13 => ?_) (fun c13 => ?_) --  (decide (x_21 = (0 : Int)))
                      · exact ⟨t fun h => (hlk.1 h).2 c15.symm (.inl (hw.2 c13)), H13⟩ --! J4 true
                      · refine H13.ld (i := 1) rfl rfl ?_
                        refine H13.ld (i := 2) rfl rfl ?_
                        refine ⟨?_, H13⟩ --! J4 (decide (x_1 ≤ x_21))
                        by_cases c : l[j + 1].f ≤ l[j].t
                        · rw [decide_eq_true c]; exact t fun h => (hlk.1 h).2 c15.symm (.inr (.inr c))
                        · rw [decide_eq_false c]; exact f (hlk.2 ⟨by omega, fun _ h => by rcases h with h | h | h; exact c13 (hw.1 h); exact c14 h; exact c h⟩)
                  · exact ⟨f (hlk.2 ⟨by omega, fun h => absurd h.symm c15⟩), H13⟩ --! J4 false
          · refine bsplit_nd (fun c12 => ?_) (fun c12 => ?_) --  (!whole1)
            · have nop : ¬ isPart l[k] → ¬ ownR bits u l[k] := fun h h' => h'.2.2.elim c12 h
              refine H9.ld (i := 1) rfl rfl ?_
              refine bsplit_dec (fun c11 => ?_) (fun c11 => ?_) --  (decide (x_1 < (0 : Int)))
              · exact no (bad fun h => nop (fun h => by have := h.1; omega) h.1) H9 --! (.bool false)
              · refine H9.ld (i := 1) rfl rfl ?_
                refine H9.ld (i := 1) rfl rfl ?_
                refine bsplit_dec (fun c10 => ?_) (fun c10 => ?_) --  (decide (x_1 ≥ x_2))
                · exact no (bad fun h => nop (fun h => by have := h.2.1; omega) h.1) H9 --! (.bool false)
                · refine H9.ld (i := 1) rfl rfl ?_
                  refine bsplit_dec (fun c9 => ?_) (fun c9 => ?_) --  (decide (x_2 > (65535 : Int)))
                  · exact no (bad fun h => nop (fun h => by have := h.2.2; omega) h.1) H9 --! (.bool false)
                  · exact ⟨hown.2 ⟨hj.1, hj.2, .inr ⟨by omega, by omega, by omega⟩⟩, H9⟩ --! J3 
            · exact ⟨hown.2 ⟨hj.1, hj.2, .inl c12⟩, H9⟩ --! J3 
        · refine H8.ld (i := 1) rfl rfl ?_
          refine bsplit_dec (fun c8 => ?_) (fun c8 => ?_) --  (decide (x_1 = (0 : Int)))
          · refine H8.ld (i := 1) rfl rfl ?_
            refine kLet_in ?_
            exact ⟨by rw [decide_eq_decide]; unfold whole; omega, H8⟩ --! J2 (decide (x_2 = (0 : Int)))
          · exact ⟨by rw [decide_eq_false]; intro h; exact c8 h.1, H8⟩ --! J2 false
      · refine H7.ld (i := 1) rfl rfl ?_
        refine bsplit_dec (fun c7 => ?_) (fun c7 => ?_) --  (decide (x_0 < (0 : Int)))
        · exact no (bad fun h => by have := (hown.1 h.1).1; omega) H7 --! (.bool false)
        · refine H7.ld (i := 1) rfl rfl ?_
          refine kW_u64 (by omega) ?_ -- bits
          refine ⟨by omega, ?_⟩
          refine kShl1 (by omega) ?_
          refine bsplit_dec (fun c6 => ?_) (fun c6 => ?_) --  (decide (x_0 ≥ (2 ^ bits.toNat)))
          · exact no (bad fun h => by have := (hown.1 h.1).1; omega) H7 --! (.bool false)
          · refine bsplit_dec (fun c5 => ?_) (fun c5 => ?_) --  (decide (r1 < (1 : Int)))
            · exact no (bad fun h => by have := (hown.1 h.1).2; omega) H7 --! (.bool false)
            · refine kW_i64 (by omega) ?_ -- bits - (1 : Int)
              refine kW_u64 (by omega) ?_ -- (bits - (1 : Int))
              refine ⟨by omega, ?_⟩
              refine kShl1 (by omega) ?_
              refine bsplit_dec (fun c4 => ?_) (fun c4 => ?_) --  (decide (r1 > (2 ^ ((bits - (1 : Int))).toNat)))
              · exact no (bad fun h => by have := (hown.1 h.1).2; omega) H7 --! (.bool false)
              · exact ⟨by omega, H7⟩ --! J1 
    · obtain rfl : k = l.length := by omega
      rw [List.drop_length] at hI
      exact ⟨retT ⟨hb, hu, hll, hI⟩, H4.below⟩ --! (.bool true)
  · refine ref15_Bits_ct.mono ?_ -- (.int .i64 bits)
    rintro _ w2 ⟨rfl, hb2⟩; have H2 := H1.pass hb2; clear H1
    refine ⟨_, rfl, ?_⟩
    refine bsplit_nd (fun c3 => ?_) (fun c3 => ?_) --  (!r)
    · exact no (fun h => c3 h.1) H2 --! (.bool false)
    · have hb5 := c3.1; have hb9 := c3.2
      refine H2.ld (i := 0) rfl rfl ?_
      refine bsplit_dec (fun c2 => ?_) (fun c2 => ?_) --  (decide (s_0 < (0 : Int)))
      · exact no (fun h => by have := h.2.1.1; simp only at this; omega) H2 --! (.bool false)
      · refine H2.ld (i := 0) rfl rfl ?_
        refine kW_u64 (by omega) ?_ -- bits
        refine ⟨by omega, ?_⟩
        refine kShl1 (by omega) ?_
        refine bsplit_dec (fun c1 => ?_) (fun c1 => ?_) --  (decide (s_0 ≥ (2 ^ bits.toNat)))
        · exact no (fun h => by have := h.2.1.2; simp only at this; omega) H2 --! (.bool false)
        · refine H2.ldS (i := 0) rfl rfl ?_
          refine bsplit_dec (fun c => ?_) (fun c => ?_) --  (decide ((s_1_l : Int) > (64 : Int)))
          · exact no (fun h => by have := h.2.2.1; simp only at this; omega) H2 --! (.bool false)
          · exact ⟨c3, by omega, by omega, H2⟩ --! J 
end
end Go.Proofs.Ytmhggobilcmdmaa
