/- Chapter 18, plain: pieces and ranges as lists of numbers; no program in sight. -/
namespace Go.Sx
structure Pc where
  sn : Int
  part : Int
  poll : Int
  off : Int
  data : List Int

def Pc.zero : Pc := ⟨0, 0, 0, 0, []⟩
def begins (part : Int) : Bool := decide (part = 0 ∨ part = 1)
def ends (part : Int) : Bool := decide (part = 0 ∨ part = 2)
def headN (part : Int) : Nat := if part = 0 ∨ part = 1 then 2 else 4
def bitsOk (b : Int) : Prop := 5 ≤ b ∧ b ≤ 9
instance (b : Int) : Decidable (bitsOk b) := inferInstanceAs (Decidable (_ ∧ _))
def pOk (b sn part poll off : Int) (n : Nat) : Prop :=
  bitsOk b ∧ (0 ≤ sn ∧ sn < 2 ^ b.toNat) ∧ (0 ≤ part ∧ part ≤ 3) ∧ (0 ≤ poll ∧ poll ≤ 1) ∧ ((part = 0 ∨ part = 1) ↔ off = 0) ∧ (0 ≤ off ∧ off ≤ 2054) ∧ 1 ≤ n ∧ off + n ≤ 2054
instance (b sn part poll off : Int) (n : Nat) : Decidable (pOk b sn part poll off n) := inferInstanceAs (Decidable (_ ∧ _))
def Pc.ok (b : Int) (p : Pc) : Prop := pOk b p.sn p.part p.poll p.off p.data.length
instance (b : Int) (p : Pc) : Decidable (p.ok b) := inferInstanceAs (Decidable (pOk _ _ _ _ _ _))
theorem pow_bits {b : Int} (h : bitsOk b) : ((2 : Int) ^ b.toNat = 32 ∨ (2 : Int) ^ b.toNat = 64 ∨ (2 : Int) ^ b.toNat = 128 ∨ (2 : Int) ^ b.toNat = 256 ∨ (2 : Int) ^ b.toNat = 512) := by
  obtain ⟨h1, h2⟩ := h
  rcases (show b = 5 ∨ b = 6 ∨ b = 7 ∨ b = 8 ∨ b = 9 by omega) with rfl | rfl | rfl | rfl | rfl <;> decide

/-- the number of the first two bytes -/
def Pc.first (p : Pc) : Int := 32768 + 16384 * p.poll + 4096 * p.part + p.sn
def Pc.bytes (p : Pc) : List Int := [p.first / 256, p.first % 256] ++ (if p.part = 0 ∨ p.part = 1 then [] else [p.off / 256, p.off % 256]) ++ p.data
theorem Pc.first_range {b : Int} {p : Pc} (h : p.ok b) : 32768 ≤ p.first ∧ p.first < 65536 := by
  obtain ⟨hb, h1, h2, h3, _⟩ := h
  have := pow_bits hb
  unfold Pc.first
  omega
def encP (b : Int) (p : Pc) : List Int × Int := if p.ok b then (p.bytes, 0) else ([], 1)

/-- what the bytes say, were they valid -/
def rawP (bs : List Int) : Pc :=
  let f := 256 * bs.getD 0 0 + bs.getD 1 0
  let part := f / 4096 % 4
  ⟨f % 4096, part, f / 16384 % 2, if part = 0 ∨ part = 1 then 0 else 256 * bs.getD 2 0 + bs.getD 3 0, bs.drop (headN part)⟩
def decP (b : Int) (bs : List Int) : Pc × Int :=
  if ¬ bitsOk b then (.zero, 3) else if bs.length < 2 then (.zero, 5) else if bs.length ≤ headN (rawP bs).part then (.zero, 5)
  else if bs.getD 0 0 < 128 ∨ ¬ (rawP bs).ok b then (.zero, 4) else (rawP bs, 0)

def partOf (first last : Bool) : Int := if first then (if last then 0 else 1) else (if last then 2 else 3)
def cutP (b : Int) (p : Pc) (size : Int) : Pc × Pc × Int :=
  if ¬ p.ok b then (.zero, .zero, 1) else if size < headN p.part + 1 then (.zero, .zero, 15)
  else if headN p.part + p.data.length ≤ size then (p, .zero, 0)
  else (⟨p.sn, partOf (begins p.part) false, p.poll, p.off, p.data.take (size - headN p.part).toNat⟩,
        ⟨p.sn, partOf false (ends p.part), p.poll, p.off + (size - headN p.part), p.data.drop (size - headN p.part).toNat⟩, 0)
end Go.Sx
