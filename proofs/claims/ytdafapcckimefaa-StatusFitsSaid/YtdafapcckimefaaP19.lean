import Derived.Test.YtdafapcckimefaaP18
import Derived.Test.YtdafapcckimefaaP18r
import Derived.Test.YtdafapcckimefaaLs
/- Chapter 19, plain: reports; no program in sight. -/
namespace Go.Sx
structure Stt where
  upto : Int
  miss : List Rg
deriving DecidableEq
def Stt.zero : Stt := ⟨0, []⟩
def whole (r : Rg) : Prop := r.f = 0 ∧ r.t = 0
instance (r : Rg) : Decidable (whole r) := inferInstanceAs (Decidable (_ ∧ _))
def isPart (r : Rg) : Prop := 0 ≤ r.f ∧ r.f < r.t ∧ r.t ≤ 65535
instance (r : Rg) : Decidable (isPart r) := inferInstanceAs (Decidable (_ ∧ _))
def szR (r : Rg) : Int := if whole r then 2 else 6
/-- a range by itself -/
def ownR (b u : Int) (r : Rg) : Prop := (0 ≤ r.sn ∧ r.sn < 2 ^ b.toNat) ∧ (1 ≤ way b r.sn u ∧ way b r.sn u ≤ 2 ^ (b - 1).toNat) ∧ (whole r ∨ isPart r)
instance (b u : Int) (r : Rg) : Decidable (ownR b u r) := inferInstanceAs (Decidable (_ ∧ _))
/-- a range behind another one -/
def linkR (b u : Int) (q r : Rg) : Prop := way b r.sn u ≤ way b q.sn u ∧ (way b r.sn u = way b q.sn u → ¬ (whole q ∨ whole r ∨ r.f ≤ q.t))
instance (b u : Int) (q r : Rg) : Decidable (linkR b u q r) := inferInstanceAs (Decidable (_ ∧ _))
def linkO (b u : Int) : Option Rg → Rg → Prop
  | none, _ => True
  | some q, r => linkR b u q r
instance (b u : Int) (p : Option Rg) (r : Rg) : Decidable (linkO b u p r) := by cases p <;> unfold linkO <;> infer_instance
def chainB (b u : Int) : Option Rg → List Rg → Bool
  | _, [] => true
  | p, r :: l => decide (ownR b u r ∧ linkO b u p r) && chainB b u (some r) l
def okS (b : Int) (s : Stt) : Prop := bitsOk b ∧ (0 ≤ s.upto ∧ s.upto < 2 ^ b.toNat) ∧ s.miss.length ≤ 64 ∧ chainB b s.upto none s.miss = true
instance (b : Int) (s : Stt) : Decidable (okS b s) := inferInstanceAs (Decidable (_ ∧ _))
def prevR (l : List Rg) : Nat → Option Rg
  | 0 => none
  | k + 1 => l[k]?
theorem chain_step (b u : Int) {l : List Rg} {k : Nat} (h : k < l.length) : chainB b u (prevR l k) (l.drop k) = (decide (ownR b u l[k] ∧ linkO b u (prevR l k) l[k]) && chainB b u (prevR l (k + 1)) (l.drop (k + 1))) := by
  rw [List.drop_eq_getElem_cons h]
  simp only [chainB, prevR, List.getElem?_eq_getElem h]
def beforeOf (b u : Int) (l : List Rg) (k : Nat) : Int := match prevR l k with | none => 2 ^ (b - 1).toNat + 1 | some q => way b q.sn u
/-- the bytes of a number of two bytes -/
def be16 (x : Int) : List Int := [x / 256 % 256, x % 256]
def encB (r : Rg) : List Int := if whole r then be16 (16 * r.sn) else be16 (16 * r.sn + 1) ++ (be16 r.f ++ be16 r.t)
def bytesS (s : Stt) : List Int := be16 s.upto ++ ((s.miss.length : Int) % 256) :: s.miss.flatMap encB
def encS (b : Int) (s : Stt) : List Int × Int := if okS b s then (bytesS s, 0) else ([], 1)
def rdR : Nat → List Int → Option (List Rg)
  | 0, _ => some []
  | n + 1, x :: y :: l => if (256 * x + y) % 16 = 1 then (match l with
      | p :: q :: r :: s :: l => (rdR n l).map (⟨(256 * x + y) / 16, 256 * p + q, 256 * r + s⟩ :: ·)
      | _ => none) else (rdR n l).map (⟨(256 * x + y) / 16, 0, 0⟩ :: ·)
  | _, _ => none
def rdS : List Int → Option Stt
  | x :: y :: n :: l => (rdR n.toNat l).map (⟨256 * x + y, ·⟩)
  | _ => none
def decS (b : Int) (l : List Int) : Stt × Int :=
  if ¬ bitsOk b then (.zero, 3) else match rdS l with
    | none => (.zero, 5)
    | some s => if okS b s ∧ bytesS s = l then (s, 0) else (.zero, 4)
def unitOf (k : Nat) (p : Option Rg) (unit : Nat) (r : Rg) : Nat := match p with | none => unit | some q => if r.sn ≠ q.sn then k else unit
def fitS (sp u : Int) (L : List Rg) : Nat → Int → Nat → Option Rg → List Rg → Stt
  | _, _, _, _, [] => ⟨u, L⟩
  | k, used, unit, p, r :: l =>
    if used + szR r > sp then ⟨r.sn, L.take (unitOf k p unit r)⟩ else fitS sp u L (k + 1) (used + szR r) (unitOf k p unit r) (some r) l
def fitR (b : Int) (s : Stt) (sp : Int) : Stt × Int :=
  if ¬ okS b s then (.zero, 1) else if sp < 3 then (.zero, 15) else (fitS sp s.upto s.miss 0 3 0 none s.miss, 0)
theorem pow_bits1 {b : Int} (h : bitsOk b) : (2 : Int) ^ b.toNat = 2 * 2 ^ (b - 1).toNat ∧ (16 : Int) ≤ 2 ^ (b - 1).toNat ∧ (2 : Int) ^ (b - 1).toNat ≤ 256 := by
  obtain ⟨h1, h2⟩ := h
  rcases (show b = 5 ∨ b = 6 ∨ b = 7 ∨ b = 8 ∨ b = 9 by omega) with rfl | rfl | rfl | rfl | rfl <;> decide
end Go.Sx
