import Derived.Test.YtlgolgpellbnbaaOp
/- ARGUMENTS OPENED, WITH THEIR SIZES IN BYTES: as Opw.lean; an element that is a slice takes 24 bytes. -/
namespace Go.Sx
open Go.RowKit Go.WideShapes Go.ChangeShapes Go.ChangeAt

def Shape.by8 : Shape → Nat
  | .sl _ _ => 24
  | _ => 1
def Shape.RX (w : World) : Shape → List Value → Prop
  | .int k, cs => ∃ n, cs = [.int k n] ∧ (Lit.int k n).wf = true
  | .bool, cs => ∃ b, cs = [.bool b]
  | .sl sz s, cs => ∃ a l c, cs = [.slice a l c] ∧ l ≤ c ∧ l * s.by8 ≤ reachBytes ∧ (0 < l → ∃ b, a = some b ∧ ∀ i, i < l → ∃ es, cellsAt w (b.add (i * sz)) 0 es ∧ es.length = sz ∧ s.RX w es)
  | .nil, cs => cs = []
  | .cons n s rest, cs => s.RX w (cs.take n) ∧ rest.RX w (cs.drop n)
mutual
/-- every slice's elements take a byte or more -/
def Shape.okY (P : Program) : Shape → TypeId → Bool
  | .sl _ s, t => match P.underlying t with | some (.slice e) => Nat.ble s.by8 (P.bytesOf e) && s.okY P e | _ => false
  | .cons _ s rest, t => match P.underlying t with
    | some (.struct fs) => (match fs.toList with
      | f :: fs => s.okY P f.type && rest.okYF P fs
      | [] => false)
    | _ => false
  | _, _ => true
def Shape.okYF (P : Program) : Shape → List Field → Bool
  | .cons _ s rest, f :: fs => s.okY P f.type && rest.okYF P fs
  | _, _ => true
end
theorem weights_allX {H : Type} {P : Program} {e : TypeId} : ∀ {ds : List (DataW H)} {i : Nat} {d : DataW H}, ds[i]? = some d → ∀ n ∈ d.weights P e, n ∈ DataW.weightsAll P e ds
  | d0 :: ds, 0, d, h, n, hn => by
    simp only [List.getElem?_cons_zero, Option.some.injEq] at h
    subst h
    simp only [DataW.weightsAll, List.mem_append]; exact .inl hn
  | d0 :: ds, i + 1, d, h, n, hn => by
    simp only [List.getElem?_cons_succ] at h
    simp only [DataW.weightsAll, List.mem_append]; exact .inr (weights_allX h n hn)
theorem shape_trodX {H : Type} {enc : TypeId × Value → H} {P : Program} {w : World} {base : Nat} {spare : Nat → Bool} {held : Bool} : ∀ (sh : Shape),
    (∀ (t : TypeId) (fuel : Nat) (cs : List Value) (x : DataW H × List MemPlace), sh.ok P t = true → sh.okY P t = true → DataW.trod enc P w base spare held fuel t cs = some x → (∀ n ∈ x.1.weights P t, n ≤ reachBytes) → sh.RX w cs) ∧
    (∀ (fs : List Field) (off tot n : Nat) (cs : List Value), sh.okF P fs off tot = true → sh.okYF P fs = true → cs.length = tot → (∀ f ∈ fs, ∃ y, DataW.trod enc P w base spare held n f.type ((cs.drop f.offset).take (P.cellsOf f.type)) = some y ∧ ∀ n ∈ y.1.weights P f.type, n ≤ reachBytes) → sh.RX w (cs.drop off))
  | .int k => by
    refine ⟨fun t fuel cs x hok hob h hwt => ?_, fun fs off tot n cs hok => by simp [Shape.okF] at hok⟩
    simp only [Shape.ok] at hok
    split at hok
    · rename_i k' hu
      have := of_decide_eq_true hok; subst this
      obtain ⟨n, rfl, _, hw⟩ := DataW.trod_int hu h
      exact ⟨n, rfl, hw⟩
    · cases hok
  | .bool => by
    refine ⟨fun t fuel cs x hok hob h hwt => ?_, fun fs off tot n cs hok => by simp [Shape.okF] at hok⟩
    simp only [Shape.ok] at hok
    split at hok
    · rename_i hu
      obtain ⟨b, rfl, _⟩ := DataW.trod_bool hu h
      exact ⟨b, rfl⟩
    · cases hok
  | .sl sz s => by
    refine ⟨fun t fuel cs x hok hob h hwt => ?_, fun fs off tot n cs hok => by simp [Shape.okF] at hok⟩
    have ih := (shape_trodX (enc := enc) (P := P) (w := w) (base := base) (spare := spare) (held := held) s).1
    simp only [Shape.ok] at hok
    split at hok
    · rename_i e hu
      simp only [Bool.and_eq_true] at hok
      have hsz := Nat.eq_of_beq_eq_true hok.1
      simp only [Shape.okY, hu, Bool.and_eq_true] at hob
      have hby := Nat.le_of_ble_eq_true hob.1
      rcases DataW.trod_slice hu h with ⟨rfl, _⟩ | ⟨a, len, cap, elems, rest, n, _, rfl, hx, _, hl, hm, hlen, hel, _, _⟩
      · exact ⟨none, 0, 0, rfl, Nat.le_refl _, by rw [Nat.zero_mul]; exact Nat.zero_le _, fun h => by omega⟩
      · subst hx
        have hwl : len * s.by8 ≤ reachBytes := by
          have := hwt _ (by simp only [DataW.weights, hu]; exact List.mem_cons_self)
          simp only [List.length_map] at this
          have h2 : (elems.length + rest.length) * s.by8 ≤ (elems.length + rest.length) * P.bytesOf e := Nat.mul_le_mul_left _ hby
          have h3 : len * s.by8 ≤ (elems.length + rest.length) * s.by8 := Nat.mul_le_mul_right _ (by omega)
          omega
        refine ⟨some a, len, cap, rfl, hl, hwl, fun _ => ⟨a, rfl, fun i hi => ?_⟩⟩
        have h1 := hel i hi
        rw [List.getElem?_eq_getElem (by omega), Option.bind_eq_some_iff] at h1
        obtain ⟨es, hes, ht⟩ := h1
        obtain ⟨_, h3, h4⟩ := World.cells?_some hes
        rw [hsz] at h3 h4
        refine ⟨es, cellsAt_of fun j hj => ?_, h3, ih e n es _ hok.2 hob.2 ht fun m hm => hwt m (by
          simp only [DataW.weights, hu]
          exact List.mem_cons_of_mem _ (List.mem_append_left _ (weights_allX (i := i) (by rw [List.getElem?_map, List.getElem?_eq_getElem (by omega)]; rfl) m hm)))⟩
        rw [Nat.zero_add]
        exact h4 j (by omega)
    · cases hok
  | .nil => by
    refine ⟨fun t fuel cs x hok hob h hwt => ?_, fun fs off tot n cs hok hob hl hf => ?_⟩
    · simp only [Shape.ok] at hok
      split at hok
      · rename_i fs hu
        simp only [Bool.and_eq_true] at hok
        obtain ⟨xs, n, _, _, hl, _⟩ := DataW.trod_struct hu h
        have := Nat.eq_of_beq_eq_true hok.2
        exact List.eq_nil_of_length_eq_zero (by omega)
      · cases hok
    · cases fs with
      | nil =>
        simp only [Shape.okF] at hok
        have := Nat.eq_of_beq_eq_true hok
        exact List.drop_eq_nil_of_le (by omega)
      | cons f fs => simp [Shape.okF] at hok
  | .cons k s rest => by
    have ih1 := shape_trodX (enc := enc) (P := P) (w := w) (base := base) (spare := spare) (held := held) s
    have ih2 := shape_trodX (enc := enc) (P := P) (w := w) (base := base) (spare := spare) (held := held) rest
    have step : ∀ (fs : List Field) (off tot n : Nat) (cs : List Value), (Shape.cons k s rest).okF P fs off tot = true → (Shape.cons k s rest).okYF P fs = true → cs.length = tot → (∀ f ∈ fs, ∃ y, DataW.trod enc P w base spare held n f.type ((cs.drop f.offset).take (P.cellsOf f.type)) = some y ∧ ∀ n ∈ y.1.weights P f.type, n ≤ reachBytes) → (Shape.cons k s rest).RX w (cs.drop off) := by
      intro fs off tot n cs hok hob hl hf
      cases fs with
      | nil => simp [Shape.okF] at hok
      | cons f fs =>
        simp only [Shape.okF, Bool.and_eq_true] at hok
        simp only [Shape.okYF, Bool.and_eq_true] at hob
        obtain ⟨⟨⟨h1, h2⟩, h3⟩, h4⟩ := hok
        have h1 := Nat.eq_of_beq_eq_true h1
        have h2 := Nat.eq_of_beq_eq_true h2
        obtain ⟨y, hy, hyw⟩ := hf f (by simp)
        rw [h1, h2] at hy
        refine ⟨ih1.1 f.type n _ y h3 hob.1 hy hyw, ?_⟩
        have := ih2.2 fs (off + k) tot n cs h4 hob.2 hl fun g hg => hf g (by simp [hg])
        rw [List.drop_drop]
        exact this
    refine ⟨fun t fuel cs x hok hob h hwt => ?_, step⟩
    simp only [Shape.ok] at hok
    split at hok
    · rename_i fs hu
      obtain ⟨xs, n, _, hx, hl, hlen, hfs⟩ := DataW.trod_struct hu h
      subst hx
      simp only [DataW.weights, hu] at hwt
      simp only [Shape.okY, hu] at hob
      split at hok
      · rename_i f fs' hfl
        have hok2 : (Shape.cons k s rest).okF P (f :: fs') 0 (P.cellsOf t) = true := by simpa [Shape.okF] using hok
        rw [hfl] at hob
        have hob2 : (Shape.cons k s rest).okYF P (f :: fs') = true := by simpa [Shape.okYF] using hob
        have := step (f :: fs') 0 (P.cellsOf t) n cs hok2 hob2 hl fun g hg => by
          rw [← hfl] at hg
          obtain ⟨i, hi⟩ := List.getElem?_of_mem hg
          have hi' : fs[i]? = some g := by simpa using hi
          have h5 := hfs i g hi'
          have hlt : i < xs.length := by rw [hlen]; exact (Array.getElem?_eq_some_iff.1 hi').1
          rw [List.getElem?_eq_getElem hlt] at h5
          refine ⟨_, h5, fun m hm => hwt m (DataW.weights_mem_each (j := i) (by rw [List.getElem?_map, hi]; rfl) (by rw [List.getElem?_map, List.getElem?_eq_getElem hlt]; rfl) m hm)⟩
        simpa using this
      · cases hok
    · cases hok

/-- an argument that is a struct, with the sizes of its slices -/
theorem open_shapeX {H : Type} {enc : TypeId × Value → H} {P : Program} {W : World} {base b0 : Nat} {spare : Nat → Bool} {held : Bool} {r : Reach} {t : TypeId} {fs : Array Field} {v : Value} {d : DataW H} {p : List MemPlace} (sh : Shape)
    (ht : P.underlying t = some (.struct fs)) (hs : sh.ok P t = true) (hb : sh.okY P t = true) (hv : Value.okWide P W r b0 t v) (h : DataW.Trod enc P W base spare held t v d p)
    {ts : List TypeId} {ds : List (DataW H)} (hreach : (DataW.weightsEach P ts ds).all (· ≤ reachBytes) = true) {j : Nat} (hj : ts[j]? = some t) (hd : ds[j]? = some d) : ∃ cs, v = .agg cs ∧ sh.RX W cs.toList := by
  obtain ⟨cs, rfl, _⟩ := okWide_struct ht hv
  obtain ⟨fuel, hf⟩ := h
  refine ⟨cs, rfl, (shape_trodX sh).1 t fuel _ _ hs hb hf fun n hn => ?_⟩
  have := List.all_eq_true.1 hreach n (DataW.weights_mem_each hj hd n hn)
  simpa using this
end Go.Sx
