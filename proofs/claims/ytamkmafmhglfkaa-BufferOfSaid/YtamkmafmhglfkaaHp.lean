import Derived.Test.YtamkmafmhglfkaaSx
import Derived.Below
import Derived.IntWalk
import Derived.Maps.AppendAt
import Derived.Laws.OwnMore
namespace Go.Sx
open Go.RowKit

/-! ## Blocks that are known whole -/
theorem add_mk (b o k : Nat) : (⟨b, o, none⟩ : Addr).add k = ⟨b, o + k, none⟩ := by
  unfold Addr.add; split
  · subst_vars; rfl
  · rfl
theorem nb_add (w : World) (k : Nat) : (nb w).add k = ⟨w.heap.size, k, none⟩ := by unfold nb; rw [add_mk]; simp
theorem nb_def (w : World) : nb w = ⟨w.heap.size, 0, none⟩ := rfl
theorem add_add (a : Addr) (i j : Nat) : (a.add i).add j = a.add (i + j) := by
  unfold Addr.add
  by_cases hi : i = 0 <;> by_cases hj : j = 0 <;> simp [hi, hj, Nat.add_assoc]
theorem add_zero (a : Addr) : a.add 0 = a := rfl
theorem add_block (a : Addr) (n : Nat) : (a.add n).block = a.block := by unfold Addr.add; split <;> rfl

/-- block b is just these cells, of element type t, none of them frozen -/
def Blk (w : World) (b : Nat) (t : TypeId) (cs : Array Value) : Prop := w.heap[b]? = some (.cells cs t (0, 0))

section
variable {w w' : World} {b b' : Nat} {t t' : TypeId} {cs cs' : Array Value}
theorem Blk.lt (h : Blk w b t cs) : b < w.heap.size := by
  rcases Nat.lt_or_ge b w.heap.size with hlt | hge
  · exact hlt
  · unfold Blk at h; rw [Array.getElem?_eq_none hge] at h; cases h
theorem Blk.cell (h : Blk w b t cs) (i : Nat) : w.cell? ⟨b, i, none⟩ = cs[i]? := by
  unfold Blk at h; simp [World.cell?, h]
theorem Blk.cell0 (h : Blk w b t cs) (i : Nat) {v : Value} (hv : cs[i]? = some v) : w.cell? ⟨b, i, none⟩ = some v := (h.cell i).trans hv
theorem Blk.has (h : Blk w b t cs) {i : Nat} (hi : i < cs.size) : ∃ u, w.cell? ⟨b, i, none⟩ = some u := ⟨cs[i], by rw [h.cell]; simp [hi]⟩
theorem Blk.frozen (h : Blk w b t cs) (i : Nat) : w.frozen? ⟨b, i, none⟩ = false := by
  unfold Blk at h; simp [World.frozen?, h]
theorem Blk.new (w : World) (t : TypeId) (cs : Array Value) : Blk (w.alloc (.cells cs t)) w.heap.size t cs := by
  unfold Blk World.alloc; simp
theorem Blk.drew (h : Blk w b t cs) : Blk w.drew b t cs := h
theorem Blk.alloc (h : Blk w b t cs) (o : Obj) : Blk (w.alloc o) b t cs := (Below.heap_alloc w o b h.lt).trans h
theorem Blk.set (h : Blk w b t cs) (i : Nat) (v : Value) : Blk (w.setCell ⟨b, i, none⟩ v) b t (cs.setIfInBounds i v) := by
  unfold Blk at h ⊢
  simp [World.setCell, Array.getElem?_modify, h]
theorem Blk.far (h : Blk w b t cs) {p : Addr} (hp : b ≠ p.block) (v : Value) : Blk (w.setCell p v) b t cs := (Below.heap_setCell w p v b hp).trans h
theorem Blk.below {B : Nat} (h : Blk w b t cs) (hb : Below B w w') (hlt : b < B) : Blk w' b t cs := (hb.block b hlt).trans h

/-- w' is w but for block b -/
structure But (b : Nat) (w w' : World) : Prop where
  os : w'.os = w.os
  tape : w'.tape = w.tape
  output : w'.output = w.output
  size : w'.heap.size = w.heap.size
  block : ∀ k, k ≠ b → w'.heap[k]? = w.heap[k]?
theorem But.refl (b : Nat) (w : World) : But b w w := ⟨rfl, rfl, rfl, rfl, fun _ _ => rfl⟩
theorem But.setCell (w : World) (p : Addr) (v : Value) : But p.block w (w.setCell p v) := ⟨rfl, rfl, rfl, by simp, fun _ hk => Below.heap_setCell _ _ _ _ hk⟩
theorem But.trans {a b c : World} {g : Nat} (h : But g a b) (k : But g b c) : But g a c :=
  ⟨k.os.trans h.os, k.tape.trans h.tape, k.output.trans h.output, k.size.trans h.size, fun i hi => (k.block i hi).trans (h.block i hi)⟩
theorem But.cell {a b : World} {g : Nat} (h : But g a b) {p : Addr} (hp : p.block ≠ g) : b.cell? p = a.cell? p := World.cell?_of_block (h.block _ hp)
theorem Blk.but {g : Nat} (h : Blk w b t cs) (hb : But g w w') (hne : b ≠ g) : Blk w' b t cs := (hb.block b hne).trans h
theorem _root_.Go.RowKit.Below.but {B g : Nat} {a w w' : World} (h : Below B a w) (hs : But g w w') (hg : B ≤ g) : Below B a w' :=
  h.trans ⟨hs.os, hs.tape, hs.output, by rw [hs.size]; exact Nat.le_refl _, fun k hk => hs.block k (by omega)⟩

theorem blk_store {T : TypeId} : ∀ {vs : List Value} {i o : Nat} {w : World} {cs : Array Value} {F : World → Prop}, Blk w b T cs → o + i + vs.length ≤ cs.size → vs.all (·.oneCell') = true →
    (∀ w' cs', Blk w' b T cs' → cs'.size = cs.size → (∀ j, cs'[j]? = if o + i ≤ j ∧ j < o + i + vs.length then vs[j - (o + i)]? else cs[j]?) → But b w w' → F w') →
    sxStore w ⟨b, o, none⟩ i vs F
  | [], i, o, w, cs, F, h, _, _, hF => hF w cs h rfl (fun j => by rw [if_neg (by simp only [List.length_nil]; omega)]) (But.refl _ _)
  | v :: vs, i, o, w, cs, F, h, hl, h1, hF => by
    simp only [sxStore, bcond_iff]
    rw [add_mk]
    have hlt : o + i < cs.size := by simp at hl; omega
    simp only [List.all_cons, Bool.and_eq_true] at h1
    refine ⟨h1.1, ⟨cs[o + i], by rw [h.cell]; simp [hlt]⟩, h.frozen _, ?_⟩
    refine blk_store (h.set (o + i) v) (by simp at hl ⊢; omega) h1.2 ?_
    intro w' cs' hB hsz hcs hs
    refine hF w' cs' hB (by simpa using hsz) (fun j => ?_) ((But.setCell w ⟨b, o + i, none⟩ v).trans hs)
    rw [hcs j]
    by_cases hj : j = o + i
    · subst hj
      rw [if_neg (by omega), if_pos (by simp)]
      simp [hlt]
    · by_cases hj2 : o + i ≤ j ∧ j < o + i + (v :: vs).length
      · rw [if_pos hj2, if_pos (by simp at hj2; omega)]
        obtain ⟨d, hd⟩ : ∃ d, j - (o + i) = d + 1 := ⟨j - (o + i) - 1, by omega⟩
        rw [hd, show j - (o + (i + 1)) = d by omega]
        simp
      · rw [if_neg hj2, if_neg (by simp at hj2; omega)]
        rw [Array.getElem?_setIfInBounds_ne (by omega)]

/-- a whole block is written -/
theorem blk_storeAll {T : TypeId} {vs : List Value} {F : World → Prop} (h : Blk w b T cs) (hl : vs.length = cs.size) (h1 : vs.all (·.oneCell') = true)
    (hF : ∀ w', Blk w' b T vs.toArray → But b w w' → F w') : sxStore w ⟨b, 0, none⟩ 0 vs F := by
  refine blk_store h (by omega) h1 fun w' cs' hB hsz hcs hs => ?_
  have : cs' = vs.toArray := by
    apply Array.ext_getElem?
    intro j
    rw [hcs j]
    by_cases hj : j < vs.length
    · rw [if_pos (by omega)]; simp
    · rw [if_neg (by omega)]; rw [Array.getElem?_eq_none (by omega)]; simp; omega
  subst this
  exact hF w' hB hs

theorem blk_cellsAt : ∀ {vs : List Value} {o i : Nat}, Blk w b t cs → (∀ j, j < vs.length → cs[o + i + j]? = vs[j]?) → cellsAt w ⟨b, o, none⟩ i vs
  | [], _, _, _, _ => trivial
  | v :: vs, o, i, h, hv => by
    refine ⟨?_, blk_cellsAt h fun j hj => ?_⟩
    · rw [add_mk, h.cell]; simpa using hv 0 (by simp)
    · have := hv (j + 1) (by simp; omega)
      rw [show o + (i + 1) + j = o + i + (j + 1) by omega, this]; simp
theorem blk_cellsAll {vs : List Value} (h : Blk w b t vs.toArray) : cellsAt w ⟨b, 0, none⟩ 0 vs := blk_cellsAt h fun j hj => by simp
end

theorem _root_.Go.RowKit.Below.nothing (w : World) : Below w.heap.size w w := .refl _ _
/-- the next call's 'Below' joined to what was before -/
theorem _root_.Go.RowKit.Below.then_ {B : Nat} {a w w' : World} (h : Below B a w) (k : Below w.heap.size w w') (hB : B ≤ w.heap.size) : Below B a w' := h.trans (k.mono hB)
theorem wrap_id (n : Int) (h : -9223372036854775808 ≤ n ∧ n ≤ 9223372036854775807) : IntKind.wrap .i64 n = n := IntWalk.i64_in n h

theorem below_step {B : Nat} {w w1 w2 : World} (h : Below B w w1) (hB : B ≤ w.heap.size) (k : Below w1.heap.size w1 w2) : Below B w w2 := h.trans (k.mono (Nat.le_trans hB h.size))
theorem _root_.Go.RowKit.Below.keeps {B : Nat} {w w' : World} (h : Below B w w') : KeepsB (· < B) w w' := fun p _ hp hc => (h.cell hp).trans hc
theorem _root_.Go.RowKit.Below.drewN {B : Nat} {a w : World} (h : Below B a w) : Below B a w.drew := h.drew
theorem cell_lt {w : World} {p : Addr} {v : Value} (h : w.cell? p = some v) : p.block < w.heap.size := World.block_lt_of_cell? w p h
/-- a cell that was there reads as it did -/
theorem _root_.Go.RowKit.Below.get {w w' : World} {p : Addr} {v : Value} (h : Below w.heap.size w w') (hc : w.cell? p = some v) : w'.cell? p = some v := (h.cell (cell_lt hc)).trans hc

theorem getD_at {α : Type} {l : List α} {i : Nat} {d : α} (h : i < l.length) : l.getD i d = l[i] := by simp [List.getD, h]

/-! ## Elements in a row -/
def IntC (k : IntKind) (w : World) (p : Addr) (n : Int) : Prop := w.cell? p = some (.int k n)

/-- the slice with address a holds the elements xs, each of sz cells -/
def SlR {α : Type} (E : World → Addr → α → Prop) (sz : Nat) (w : World) (a : Option Addr) (xs : List α) : Prop :=
  xs = [] ∨ ∃ b, a = some b ∧ ∀ i (h : i < xs.length), E w (b.add (i * sz)) xs[i]

section
variable {α : Type} {E : World → Addr → α → Prop} {sz : Nat} {w w' : World} {a : Option Addr} {xs : List α}
theorem SlR.get (h : SlR E sz w a xs) {i : Nat} (hi : i < xs.length) : ∃ b, a = some b ∧ E w (b.add (i * sz)) xs[i] := by
  rcases h with rfl | ⟨b, rfl, h⟩
  · simp at hi
  · exact ⟨b, rfl, h i hi⟩
theorem SlR.keep (h : SlR E sz w a xs) (hE : ∀ p x, E w p x → E w' p x) : SlR E sz w' a xs := by
  rcases h with rfl | ⟨b, rfl, h⟩
  · exact .inl rfl
  · exact .inr ⟨b, rfl, fun i hi => hE _ _ (h i hi)⟩
theorem SlR.below {k : IntKind} {ys : List Int} (h : SlR (IntC k) 1 w a ys) (hb : Below w.heap.size w w') : SlR (IntC k) 1 w' a ys :=
  h.keep fun _ _ hc => hb.get hc
theorem SlR.nil : SlR E sz w a ([] : List α) := .inl rfl
end

/-- an array of integers in a block of its own -/
def arrN (k : IntKind) (n : Nat) (s : Nat → Int) : Array Value := ((List.range n).map fun i => Value.int k (s i)).toArray
theorem arrN_size (k : IntKind) (n : Nat) (s : Nat → Int) : (arrN k n s).size = n := by simp [arrN]
theorem arrN_get {k : IntKind} {n : Nat} {s : Nat → Int} {i : Nat} (h : i < n) : (arrN k n s)[i]? = some (.int k (s i)) := by simp [arrN, h]
theorem arrN_set {k : IntKind} {n : Nat} {s : Nat → Int} {i : Nat} (v : Int) : (arrN k n s).setIfInBounds i (.int k v) = arrN k n (fun j => if j = i then v else s j) := by
  apply Array.ext_getElem?
  intro j
  rw [Array.getElem?_setIfInBounds]
  by_cases hj : j < n
  · by_cases h : i = j
    · subst h; simp [hj, arrN]
    · rw [if_neg h]; simp [hj, arrN, Ne.symm h]
  · by_cases h : i = j
    · subst h; simp [hj, arrN]
    · rw [if_neg h]; simp [hj, arrN]
theorem arrN_congr {k : IntKind} {n : Nat} {s t : Nat → Int} (h : ∀ i, i < n → s i = t i) : arrN k n s = arrN k n t := by
  simp only [arrN]
  congr 1
  apply List.map_congr_left
  intro i hi
  rw [h i (by simpa using hi)]
theorem arrN_one (k : IntKind) (n : Nat) (s : Nat → Int) : (arrN k n s).toList.all (·.oneCell') = true := by
  simp [arrN, Value.oneCell']

/-! ## append to a row of the call's own -/
/-- what the table of types says of a slice type -/
structure SlTy (P : Program) (t e : TypeId) (size bytes : Nat) (z : Value) : Prop where
  ht : P.underlying t = some (.slice e)
  hi : (P.info? e).map (fun i => (i.zero, i.size, i.bytes)) = some (some z, size, bytes)
  hz : z.cells.size = size
  pos : 0 < size
theorem SlTy.info {P : Program} {t e : TypeId} {size bytes : Nat} {z : Value} (h : SlTy P t e size bytes z) :
    ∃ i, P.info? e = some i ∧ i.zero = some z ∧ i.size = size ∧ i.bytes = bytes := by
  have := h.hi
  cases hi : P.info? e with
  | none => simp [hi] at this
  | some i => simp [hi] at this; exact ⟨i, rfl, this.1, this.2.1, this.2.2⟩

/-- the call's own row: slice (a, n, c) holds the cells xs, in a block from base on -/
def Own (w : World) (base : Nat) (e : TypeId) (sz : Nat) (a : Option Addr) (n c : Nat) (xs : List Value) : Prop := w.ownsRow base e sz (.slice a n c) n xs
def ob (a : Option Addr) : Option Nat := a.map (·.block)
theorem ownBlock_slice (a : Option Addr) (n c : Nat) : (Value.slice a n c).ownBlock = ob a := by cases a <;> rfl

section
variable {w w' : World} {base : Nat} {e : TypeId} {sz : Nat} {a : Option Addr} {n c : Nat} {xs : List Value}
theorem Own.nil_ (w : World) (base : Nat) (e : TypeId) (sz : Nat) : Own w base e sz none 0 0 [] := World.ownsRow_nil w base e sz
theorem Own.len (h : Own w base e sz a n c xs) : xs.length = n * sz := h.1
theorem Own.lt (h : Own w base e sz a n c xs) {g : Nat} (hg : ob a = some g) : base ≤ g ∧ g < w.heap.size := World.ownsRow.lt h g (by rw [ownBlock_slice]; exact hg)
theorem Own.keep (h : Own w base e sz a n c xs) (hs : ∀ g, ob a = some g → w'.heap[g]? = w.heap[g]?) : Own w' base e sz a n c xs := by
  refine ⟨h.1, ?_⟩
  rcases h.2 with h | ⟨g, cap, cur, hv, hb, hh, r⟩
  · exact .inl h
  · refine .inr ⟨g, cap, cur, hv, hb, ?_, r⟩
    have : ob a = some g := by injection hv with ha; rw [ha]; rfl
    rw [hs g this]; exact hh
theorem Own.alloc (h : Own w base e sz a n c xs) (o : Obj) : Own (w.alloc o) base e sz a n c xs := h.keep fun g hg => Below.heap_alloc w o g (h.lt hg).2
theorem Own.drew (h : Own w base e sz a n c xs) : Own w.drew base e sz a n c xs := h
theorem Own.far (h : Own w base e sz a n c xs) {p : Addr} (hp : ob a ≠ some p.block) (v : Value) : Own (w.setCell p v) base e sz a n c xs :=
  h.keep fun g hg => Below.heap_setCell w p v g (fun e => hp (by rw [← e]; exact hg))
theorem Own.below {B : Nat} (h : Own w base e sz a n c xs) (hb : Below B w w') (hB : w.heap.size ≤ B) : Own w' base e sz a n c xs :=
  h.keep fun g hg => hb.block g (Nat.lt_of_lt_of_le (h.lt hg).2 hB)
/-- its cells -/
theorem Own.cells (h : Own w base e sz a n c xs) (hn : 0 < xs.length) : ∃ b, a = some b ∧ ∀ j u, xs[j]? = some u → w.cell? (b.add j) = some u := by
  rcases h.2 with ⟨_, hn0⟩ | ⟨g, cap, cur, hv, hb, hh, _⟩
  · have := h.1; rw [hn0] at this; omega
  · injection hv with ha
    subst ha
    exact ⟨_, rfl, World.ownsRow.cells h rfl⟩

/-- append: elements whose cells lie at b -/
theorem app_own {P : Program} {t : TypeId} {bytes : Nat} {z : Value} (hT : SlTy P t e sz bytes z) (h : Own w base e sz a n c xs) {b : Addr} {m c2 : Nat} {news : List Value}
    (hl : news.length = m * sz) (hnews : ∀ j u, news[j]? = some u → w.cell? (b.add j) = some u) (h1 : ∀ u ∈ news, u.oneCell' = true)
    (hbytes : (n + m) * bytes ≤ 140737488355328) (h63 : n + m ≤ 4611686018427387904) (hbase : base ≤ w.heap.size) {ty : TypeId} {F : Option Addr → Nat → Nat → World → Prop}
    (hF : ∀ a' c' w', Own w' base e sz a' (n + m) c' (xs ++ news) → w.grownBy w' (ob a) → (ob a' = ob a ∨ ob a' = some w.heap.size) → F a' (n + m) c' w') :
    AppP P #[t, t] ty #[.slice a n c, .slice (some b) m c2] w F := by
  obtain ⟨i, hi, hz, hs, hy⟩ := hT.info
  obtain ⟨v', w', hr, h2, h3, _, h5⟩ := run_append_own_at (P := P) w base t ty e i z sz bytes hT.ht hi hz hs hy hT.hz hT.pos _ n xs h b m c2 news hl hnews h1 (by unfold maxLen; omega) hbytes hbase
  rw [ownBlock_slice] at h3 h5
  rcases h2.2 with ⟨hv, hn⟩ | ⟨g, cap, cur, hv, hb', hh, r⟩
  · subst hv
    refine ⟨none, 0, 0, w', hr, ?_⟩
    have := hF none 0 w' (by rw [hn]; rw [hn] at h2; exact h2) h3 (by simpa [Value.ownBlock, ob] using h5)
    rw [hn] at this; exact this
  · subst hv
    exact ⟨_, _, _, w', hr, hF _ _ w' h2 h3 (by simpa [Value.ownBlock, ob] using h5)⟩
end

/-- a row of integers of the call's own -/
def OwnI (w : World) (base : Nat) (e : TypeId) (k : IntKind) (a : Option Addr) (n c : Nat) (zs : List Int) : Prop := n = zs.length ∧ Own w base e 1 a n c (zs.map (Value.int k))
section
variable {w w' : World} {base : Nat} {e : TypeId} {k : IntKind} {a : Option Addr} {n c : Nat} {zs : List Int}
theorem OwnI.nil_ (w : World) (base : Nat) (e : TypeId) (k : IntKind) : OwnI w base e k none 0 0 [] := ⟨rfl, Own.nil_ ..⟩
theorem OwnI.sl (h : OwnI w base e k a n c zs) : SlR (IntC k) 1 w a zs := by
  rcases Nat.eq_zero_or_pos zs.length with h0 | h0
  · exact .inl (List.eq_nil_of_length_eq_zero h0)
  · obtain ⟨b, rfl, hc⟩ := h.2.cells (by simpa using h0)
    exact .inr ⟨b, rfl, fun i hi => hc (i * 1) _ (by simp [hi])⟩
theorem OwnI.keep (h : OwnI w base e k a n c zs) (hs : ∀ g, ob a = some g → w'.heap[g]? = w.heap[g]?) : OwnI w' base e k a n c zs := ⟨h.1, h.2.keep hs⟩
theorem OwnI.lt (h : OwnI w base e k a n c zs) {g : Nat} (hg : ob a = some g) : base ≤ g ∧ g < w.heap.size := h.2.lt hg
theorem OwnI.app {P : Program} {t : TypeId} {bytes : Nat} {z : Value} (hT : SlTy P t e 1 bytes z) (h : OwnI w base e k a n c zs) {b : Addr} {m c2 : Nat} {news : List Int}
    (hl : m = news.length) (hnews : ∀ j x, news[j]? = some x → w.cell? (b.add j) = some (.int k x))
    (hbytes : (n + m) * bytes ≤ 140737488355328) (h63 : n + m ≤ 4611686018427387904) (hbase : base ≤ w.heap.size) {ty : TypeId} {F : Option Addr → Nat → Nat → World → Prop}
    (hF : ∀ a' c' w', OwnI w' base e k a' (n + m) c' (zs ++ news) → w.grownBy w' (ob a) → (ob a' = ob a ∨ ob a' = some w.heap.size) → F a' (n + m) c' w') :
    AppP P #[t, t] ty #[.slice a n c, .slice (some b) m c2] w F := by
  refine app_own hT h.2 (news := news.map (Value.int k)) (by simp [hl]) (fun j u hu => ?_) (fun u hu => ?_) hbytes h63 hbase fun a' c' w' ho hg hb => hF a' c' w' ⟨by simp [hl, h.1], by simpa using ho⟩ hg hb
  · simp only [List.getElem?_map, Option.map_eq_some_iff] at hu
    obtain ⟨x, hx, rfl⟩ := hu
    exact hnews j x hx
  · simp only [List.mem_map] at hu
    obtain ⟨x, _, rfl⟩ := hu
    rfl
end
theorem _root_.Go.RowKit.Below.app {B : Nat} {a w w' : World} {row : Option Nat} (h : Below B a w) (hg : w.grownBy w' row) (hB : B ≤ w.heap.size) (hr : ∀ k, row = some k → B ≤ k) : Below B a w' := h.grown hg hB hr
end Go.Sx
