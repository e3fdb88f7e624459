import Derived.Test.YtmbppohkadmjgaaGreatLift
import Derived.Test.YtmbppohkadmjgaaGreatSt
namespace Go.Sx
open Go.RowKit Go.WideShapes Go.ChangeShapes Go.ChangeAt

inductive Shape where
 | int (k : IntKind)
 | bool
 | sl (sz : Nat) (s : Shape)
 | nil
 | cons (n : Nat) (s : Shape) (rest : Shape)

def Shape.R (w : World) : Shape -> List Value -> Prop
 | .int k, cs => ∃ n, cs = [.int k n] /\ (Lit.int k n).wf = true
 | .bool, cs => ∃ b, cs = [.bool b]
 | .sl sz s, cs => ∃ a l c, cs = [.slice a l c] /\ l <= c /\ c <= maxLen /\ (0 < l -> ∃ b, a = some b /\ ∀ i, i < l -> ∃ es, cellsAt w (b.add (i * sz)) 0 es /\ es.length = sz /\ s.R w es)
 | .nil, cs => cs = []
 | .cons n s rest, cs => s.R w (cs.take n) /\ rest.R w (cs.drop n)

mutual
def Shape.ok (P : Program) : Shape -> TypeId -> Bool
 | .int k, t => match P.underlying t with | some (.int k') => decide (k = k') | _ => false
 | .bool, t => match P.underlying t with | some .bool => true | _ => false
 | .sl sz s, t => match P.underlying t with | some (.slice e) => Nat.beq (P.cellsOf e) sz && s.ok P e | _ => false
 | .nil, t => match P.underlying t with | some (.struct fs) => fs.toList.isEmpty && Nat.beq 0 (P.cellsOf t) | _ => false
 | .cons n s rest, t => match P.underlying t with
  | some (.struct fs) => (match fs.toList with
   | f :: fs => Nat.beq f.offset 0 && Nat.beq (P.cellsOf f.type) n && s.ok P f.type && rest.okF P fs n (P.cellsOf t)
   | [] => false)
  | _ => false
def Shape.okF (P : Program) : Shape -> List Field -> Nat -> Nat -> Bool
 | .nil, [], off, tot => Nat.beq off tot
 | .cons n s rest, f :: fs, off, tot => Nat.beq f.offset off && Nat.beq (P.cellsOf f.type) n && s.ok P f.type && rest.okF P fs (off + n) tot
 | _, _, _, _ => false
end

theorem choose_list {α : Type} {Q : Nat -> α -> Prop} : ∀ (n : Nat), (∀ i, i < n -> ∃ x, Q i x) -> ∃ xs : List α, xs.length = n /\ ∀ i (h : i < xs.length), Q i xs[i]
 | 0, _ => ⟨[], rfl, fun i h => by simp at h⟩
 | n + 1, h => by
  obtain ⟨xs, hl, hx⟩ := choose_list n fun i hi => h i (by omega)
  obtain ⟨x, hq⟩ := h n (by omega)
  refine ⟨xs ++ [x], by simp [hl], fun i hi => ?_⟩
  by_cases hlt : i < xs.length
  ·rw [List.getElem_append_left hlt]; exact hx i hlt
  ·have : i = n := by simp at hi; omega
   subst this
   have e : (xs ++ [x])[i] = x := by simp [List.getElem_append, hl]
   rw [e]; exact hq
end Go.Sx
