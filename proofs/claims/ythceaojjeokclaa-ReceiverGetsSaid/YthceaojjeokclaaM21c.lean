import Derived.Test.YthceaojjeokclaaM21b
import Derived.Test.YthceaojjeokclaaForms
import Derived.Test.YthceaojjeokclaaTys
import Derived.Test.YthceaojjeokclaaBt
import Derived.Test.YthceaojjeokclaaSt
import Derived.Test.YthceaojjeokclaaFxReceiverGets
/- Chapter 21, plain: what a receiver keeps: a partial that takes a piece. -/
namespace Go.Sx
theorem end_come {x : Pa} (h : normB (-1) x.come = true) (e : (x.data.length : Int) = endT x.come) : ∀ r ∈ x.come, r.t ≤ x.data.length := by
  intro r hr
  have := (norm_end (q := 0) h).1 r hr
  unfold endT at e; omega
theorem getD_at2 {d : List Int} {k : Nat} (h : k < d.length) : d.getD k 0 = d[k] := by simp [List.getD, List.getElem?_eq_getElem h]
/-- the bytes of the gaps are 0 -/
theorem zero_iff {x : Pa} (h : normB (-1) x.come = true) (e : (x.data.length : Int) = endT x.come) :
    zeroB x = true ↔ ∀ k : Nat, k < x.data.length → covB k x.come = false → x.data.getD k 0 = 0 := by
  have ht := end_come h e
  have hc := fun k : Int => gaps_cov x.sn k x.data.length x.come 0 (by simpa using h) ht
  have hn := gaps_norm x.sn x.data.length x.come (-1) 0 (by simpa using h) (by omega)
  have hg := norm_lt _ _ hn
  have hle : ∀ g ∈ gapsS x.sn x.come 0 x.data.length, g.t ≤ x.data.length := gaps_le x.sn x.data.length x.come 0 fun r hr => by
    have := norm_lt _ _ h r hr; have := ht r hr; omega
  unfold zeroB
  rw [List.all_eq_true]
  constructor
  · intro hz k hk hck
    have h1 := hc k
    rw [hck] at h1
    have h2 : covB (k : Int) (gapsS x.sn x.come 0 x.data.length) = true := by rw [h1]; simp; omega
    obtain ⟨g, hg1, hg2, hg3⟩ := cov_iff.1 h2
    have h3 := hz g hg1
    rw [List.all_eq_true] at h3
    have h4 := hg g hg1
    have h5 := hle g hg1
    have hi : k - g.f.toNat < ((x.data.drop g.f.toNat).take (g.t.toNat - g.f.toNat)).length := by simp only [List.length_take, List.length_drop]; omega
    have h6 := h3 _ (List.getElem_mem hi)
    simp only [List.getElem_take, List.getElem_drop, decide_eq_true_eq] at h6
    rw [getD_at2 hk]
    rw [← h6]
    congr 1; omega
  · intro hz g hg1
    rw [List.all_eq_true]
    intro c hcm
    obtain ⟨j, hj, rfl⟩ := List.getElem_of_mem hcm
    simp only [List.getElem_take, List.getElem_drop, decide_eq_true_eq]
    simp only [List.length_take, List.length_drop] at hj
    have h4 := hg g hg1
    have h5 := hle g hg1
    have hk : g.f.toNat + j < x.data.length := by omega
    have h1 := hc ((g.f.toNat + j : Nat) : Int)
    have h2 : covB ((g.f.toNat + j : Nat) : Int) (gapsS x.sn x.come 0 x.data.length) = true := cov_iff.2 ⟨g, hg1, by omega, by omega⟩
    rw [h2] at h1
    have h3 : covB ((g.f.toNat + j : Nat) : Int) x.come = false := by
      cases hb : covB ((g.f.toNat + j : Nat) : Int) x.come with
      | false => rfl
      | true => rw [hb] at h1; simp at h1
    have := hz _ hk h3
    rwa [getD_at2 hk] at this
theorem contra_new (n : Int) (p : Pc) (h : 1 ≤ p.en) : contraB (newPa n) p = false := by
  unfold contraB
  split
  · rw [decide_eq_false_iff_not]
    rintro (⟨h1, _⟩ | h1)
    · exact h1 rfl
    · simp only [newPa, endT, lastT] at h1; omega
  · rw [decide_eq_false_iff_not]
    rintro ⟨h1, _⟩
    exact h1 rfl
/-- what is known of a number that is not done, and whether it can take a piece -/
def Open (x : Pa) : Prop := x.done = false ∧ (x.len = -1 ∨ (1 ≤ x.len ∧ x.len ≤ 2054 ∧ (x.data.length : Int) ≤ x.len)) ∧ normB (-1) x.come = true ∧ (x.data.length : Int) = endT x.come ∧ x.data.length ≤ 2054 ∧ ∀ k : Nat, k < x.data.length → covB k x.come = false → x.data.getD k 0 = 0
theorem open_new (n : Int) : Open (newPa n) := ⟨rfl, .inl rfl, rfl, rfl, Nat.zero_le _, fun k h => by simp [newPa] at h⟩
theorem open_of {x : Pa} (hd : x.done = false) (h : paB x = true) : Open x := by
  rw [paB, if_neg (by rw [hd]; decide), Bool.and_eq_true, decide_eq_true_iff] at h
  obtain ⟨⟨h1, h2, h3, h4, h5, h6, h7⟩, hz⟩ := h
  exact ⟨hd, h1, h3, h5, h6, (zero_iff h3 h5).1 hz⟩
theorem merge_open {x : Pa} {p : Pc} (h : Open x) (hp : (0 ≤ p.off ∧ p.off ≤ 2054) ∧ 1 ≤ p.data.length ∧ p.off + p.data.length ≤ 2054) (hc : contraB x p = false) :
    Open (mergeS x p) ∧ (mergeS x p).come ≠ [] ∧ ∀ r ∈ (mergeS x p).come, r.sn = p.sn := by
  obtain ⟨h1, h2, h3, h4, h5, h6⟩ := h
  obtain ⟨⟨p1, p2⟩, p3, p4⟩ := hp
  have hen : p.en = p.off + p.data.length := rfl
  have hlt : p.off < p.en := by omega
  have hl : (mergeS x p).data.length = max x.data.length (p.off.toNat + p.data.length) := layD_len _ _ _
  have hcome : (mergeS x p).come = unionS p.sn x.come p.off p.en := rfl
  have hnorm : normB (-1) (mergeS x p).come = true := union_norm p.sn x.come (-1) p.off p.en h3 (by omega) hlt
  have hend : endT (mergeS x p).come = max (endT x.come) p.en := end_union h3 p1 hlt
  have hcov : ∀ k : Int, covB k (mergeS x p).come = (decide (p.off ≤ k ∧ k < p.en) || covB k x.come) := fun k => union_cov p.sn k x.come p.off p.en hlt fun r hr => (norm_lt _ _ h3 r hr).2
  refine ⟨⟨h1, ?_, hnorm, ?_, ?_, ?_⟩, ?_, union_sn p.sn x.come p.off p.en⟩
  · have hlen : (mergeS x p).len = if ends p.part = true then p.en else x.len := rfl
    rw [hlen]
    unfold contraB at hc
    by_cases he : ends p.part = true
    · rw [if_pos he] at hc ⊢
      rw [decide_eq_false_iff_not] at hc
      right
      have : ¬ p.en < endT x.come := fun hh => hc (.inr hh)
      omega
    · rw [if_neg he] at hc ⊢
      rw [decide_eq_false_iff_not] at hc
      rcases h2 with h2 | ⟨g1, g2, g3⟩
      · exact .inl h2
      · right
        have : ¬ x.len ≤ p.en := fun hh => hc ⟨by omega, hh⟩
        omega
  · rw [hend, hl]; omega
  · rw [hl]; omega
  · intro k hk hck
    rw [hcov, Bool.or_eq_false_iff, decide_eq_false_iff_not] at hck
    have hd : (mergeS x p).data.getD k 0 = _ := layD_get x.data p.off.toNat p.data k
    rw [hd, if_neg (by omega)]
    by_cases hkd : k < x.data.length
    · exact h6 k hkd hck.2
    · simp [List.getD, List.getElem?_eq_none (by omega : x.data.length ≤ k)]
  · intro e
    have := hcov p.off
    rw [e] at this
    simp [covB, hlt] at this
/-- a partial behind a piece is valid -/
theorem merge_pa {x : Pa} {p : Pc} (h : Open x) (hs : x.sn = p.sn) (hp : (0 ≤ p.off ∧ p.off ≤ 2054) ∧ 1 ≤ p.data.length ∧ p.off + p.data.length ≤ 2054) (hc : contraB x p = false) (hn : compB (mergeS x p) = false) : paB (mergeS x p) = true := by
  obtain ⟨⟨h1, h2, h3, h4, h5, h6⟩, h7, h8⟩ := merge_open h hp hc
  rw [paB, if_neg (by rw [h1]; decide), Bool.and_eq_true, decide_eq_true_iff]
  refine ⟨⟨h2, h7, h3, fun r hr => ?_, h4, h5, hn⟩, (zero_iff h3 h4).2 h6⟩
  rw [h8 r hr]; exact hs.symm
end Go.Sx
/- Chapter 21, plain: a valid receiver stays valid. -/
namespace Go.Sx
open Go.Proofs.Ythceaojjeokclaa
/-- what is valid of a receiver, but for the greatest number that is asked, the first partial and the timer -/
structure Core (s : Rc) : Prop where
  lk : lkOk s.lk
  f : snOk s.lk.bits s.first
  n : snOk s.lk.bits s.next
  u : snOk s.lk.bits s.upto
  half : s.place s.next ≤ 2 ^ (s.lk.bits - 1).toNat
  q : 0 ≤ s.quiet ∧ s.quiet ≤ s.lk.quiet
  all : ∀ x ∈ s.parts, paB x = true ∧ snOk s.lk.bits x.sn ∧ s.place x.sn < s.place s.next
  asc : s.parts.Pairwise fun x y => s.place x.sn < s.place y.sn
  last : ((s.parts.getLast?).map fun x => s.place x.sn).getD (-1) = s.place s.next - 1
def NoFirst (s : Rc) : Prop := ∀ x ∈ s.parts, ¬ (x.done = true ∧ x.sn = s.first)
theorem paFrom_iff {s : Rc} : ∀ {L : List Pa} {last : Int}, paFrom s last L = true ↔ (∀ x ∈ L, paB x = true ∧ snOk s.lk.bits x.sn ∧ last < s.place x.sn ∧ s.place x.sn < s.place s.next ∧ ¬ (x.done = true ∧ x.sn = s.first)) ∧ (L.Pairwise fun x y => s.place x.sn < s.place y.sn) ∧ ((L.getLast?).map fun x => s.place x.sn).getD last = s.place s.next - 1
  | [], last => by simp [paFrom]
  | p :: l, last => by
    have ih := paFrom_iff (s := s) (L := l) (last := s.place p.sn)
    have hl : (((p :: l).getLast?).map fun x => s.place x.sn).getD last = ((l.getLast?).map fun x => s.place x.sn).getD (s.place p.sn) := by
      rw [List.getLast?_cons]
      cases l.getLast? <;> rfl
    rw [hl, List.pairwise_cons]
    simp only [paFrom, Bool.and_eq_true, ih, paAt, decide_eq_true_eq, List.mem_cons, forall_eq_or_imp]
    have hd : (!p.done || !decide (p.sn = s.first)) = true ↔ ¬ (p.done = true ∧ p.sn = s.first) := by
      cases p.done <;> simp
    rw [hd]
    constructor
    · rintro ⟨⟨⟨⟨h1, h2, h3⟩, h4⟩, h5⟩, h6, h7, h8⟩
      exact ⟨⟨⟨h5, h1, h2, h3, h4⟩, fun x hx => ⟨(h6 x hx).1, (h6 x hx).2.1, by have := (h6 x hx).2.2.1; omega, (h6 x hx).2.2.2⟩⟩, ⟨fun x hx => (h6 x hx).2.2.1, h7⟩, h8⟩
    · rintro ⟨⟨⟨h5, h1, h2, h3, h4⟩, h6⟩, ⟨h9, h7⟩, h8⟩
      exact ⟨⟨⟨⟨h1, h2, h3⟩, h4⟩, h5⟩, fun x hx => ⟨(h6 x hx).1, (h6 x hx).2.1, h9 x hx, (h6 x hx).2.2.2⟩, h7, h8⟩
theorem place_ge (s : Rc) (n : Int) : 0 ≤ s.place n := (way_range _ _ _).1
theorem ok_iff {s : Rc} : s.okB = true ↔ Core s ∧ s.place s.upto ≤ s.place s.next ∧ NoFirst s ∧ markB s = true := by
  unfold Rc.okB headB
  simp only [Bool.and_eq_true, decide_eq_true_eq, paFrom_iff]
  constructor
  · rintro ⟨⟨⟨h1, h2, h3, h4, h5, h6, h7, h8⟩, h9, h10, h11⟩, h12⟩
    exact ⟨⟨h1, h2, h3, h4, h5, ⟨h7, h8⟩, fun x hx => ⟨(h9 x hx).1, (h9 x hx).2.1, (h9 x hx).2.2.2.1⟩, h10, h11⟩, h6, fun x hx => (h9 x hx).2.2.2.2, h12⟩
  · rintro ⟨⟨h1, h2, h3, h4, h5, ⟨h7, h8⟩, h9, h10, h11⟩, h6, h13, h12⟩
    exact ⟨⟨⟨h1, h2, h3, h4, h5, h6, h7, h8⟩, fun x hx => ⟨(h9 x hx).1, (h9 x hx).2.1, by have := place_ge s x.sn; omega, (h9 x hx).2.2, h13 x hx⟩, h10, h11⟩, h12⟩
/-- the timer, but for its place -/
def MarkW (s : Rc) : Prop := (s.mark = -1 → s.left = 0) ∧ (s.mark ≠ -1 → snOk s.lk.bits s.mark ∧ 1 ≤ s.left ∧ s.left ≤ s.lk.wait)
theorem mark_w {s : Rc} (h : markB s = true) : MarkW s := by
  rcases mark_iff.1 h with ⟨h1, h2⟩ | ⟨h1, h2, h3, h4, h5, h6⟩
  · exact ⟨fun _ => h2, fun hh => absurd h1 hh⟩
  · exact ⟨fun hh => absurd hh h1, fun _ => ⟨h2, h5, h6⟩⟩
theorem place_self (s : Rc) : s.place s.first = 0 := by unfold Rc.place way; rw [Int.sub_self, Int.zero_emod]
theorem Core.same {s t : Rc} (h : Core s) (h1 : t.lk = s.lk) (h2 : t.first = s.first) (h3 : t.next = s.next) (h4 : snOk s.lk.bits t.upto) (h5 : 0 ≤ t.quiet ∧ t.quiet ≤ s.lk.quiet) (h6 : t.parts = s.parts) : Core t := by
  have hp : ∀ n, t.place n = s.place n := fun n => by unfold Rc.place; rw [h1, h2]
  refine ⟨by rw [h1]; exact h.lk, by rw [h1, h2]; exact h.f, by rw [h1, h3]; exact h.n, by rw [h1]; exact h4, by rw [hp, h1, h3]; exact h.half, by rw [h1]; exact h5, ?_, ?_, ?_⟩
  · intro x hx; rw [h6] at hx; rw [h1, hp, hp, h3]; exact h.all x hx
  · rw [h6]; exact h.asc.imp fun {a b} hab => by rw [hp, hp]; exact hab
  · rw [h6, hp, h3]
    have : (fun x : Pa => t.place x.sn) = fun x => s.place x.sn := funext fun x => hp x.sn
    rw [this]; exact h.last
/-- start makes the timer right -/
theorem start_ok {s : Rc} (h : Core s) (hu : s.place s.upto ≤ s.place s.next) (hf : NoFirst s) (hm : MarkW s) : (startR s).okB = true := by
  obtain ⟨e1, e2, e3, e4, e5, e6, e7⟩ := startR_same s
  have hp : ∀ n, (startR s).place n = s.place n := fun n => by unfold Rc.place; rw [e2, e3]
  refine ok_iff.2 ⟨h.same e2 e3 e4 (by rw [e5]; exact h.u) (by rw [e6]; exact h.q) e1, by rw [hp, hp, e5, e4]; exact hu, fun x hx => by rw [e1] at hx; rw [e3]; exact hf x hx, mark_iff.2 ?_⟩
  obtain ⟨m1, m2⟩ := hm
  have hn0 : s.first ≠ s.next → 1 ≤ s.place s.next := fun hne => by
    have := place_ge s s.next
    rcases Int.lt_or_le 0 (s.place s.next) with h1 | h1
    · omega
    · exact absurd (place_inj h.lk.1 h.f h.n (by rw [place_self]; omega)) hne
  have hp1 : ∀ n, (start1 s).place n = s.place n := fun n => by unfold start1; split <;> rfl
  obtain ⟨t, ht⟩ : ∃ t, t = start1 s := ⟨_, rfl⟩
  have hl := h.lk
  obtain ⟨-, -, -, hw, -, -⟩ := hl
  have ht0 : t.lk = s.lk ∧ t.first = s.first ∧ t.next = s.next := by rw [ht]; unfold start1; split <;> exact ⟨rfl, rfl, rfl⟩
  have htm : (t.mark = -1 ∧ t.left = 0) ∨ (t.mark ≠ -1 ∧ snOk s.lk.bits t.mark ∧ 1 ≤ s.place t.mark ∧ s.place t.mark ≤ s.place s.next ∧ 1 ≤ t.left ∧ t.left ≤ s.lk.wait) := by
    rw [ht]; unfold start1
    by_cases c : s.mark ≠ -1 ∧ (s.place s.mark = 0 ∨ s.place s.mark > s.place s.next)
    · rw [if_pos c]; exact .inl ⟨rfl, rfl⟩
    · rw [if_neg c]
      by_cases c2 : s.mark = -1
      · exact .inl ⟨c2, m1 c2⟩
      · have := place_ge s s.mark
        have c3 : ¬ (s.place s.mark = 0 ∨ s.place s.mark > s.place s.next) := fun hh => c ⟨c2, hh⟩
        obtain ⟨m3, m4, m5⟩ := m2 c2
        exact .inr ⟨c2, m3, by omega, by omega, m4, m5⟩
  have hst : startR s = start2 t := by rw [ht]; rfl
  have hpt : ∀ n, (start2 t).place n = s.place n := fun n => by rw [← hst]; exact hp n
  rw [hst]
  unfold start2
  by_cases c : t.mark = -1 ∧ t.first ≠ t.next
  · rw [if_pos c]
    right
    have h1 := hn0 (by rw [← ht0.2.1, ← ht0.2.2]; exact c.2)
    have hpp : ∀ n, Rc.place { t with mark := t.next, left := t.lk.wait } n = s.place n := fun n => by show way t.lk.bits t.first n = _; rw [ht0.1, ht0.2.1]; rfl
    refine ⟨?_, ?_, ?_, ?_, ?_, ?_⟩
    · show t.next ≠ -1; rw [ht0.2.2]; have := h.n.1; omega
    · show snOk t.lk.bits t.next; rw [ht0.1, ht0.2.2]; exact h.n
    · rw [hpp]; show 1 ≤ s.place t.next; rw [ht0.2.2]; exact h1
    · rw [hpp]; exact Int.le_refl _
    · show 1 ≤ t.lk.wait; rw [ht0.1]; omega
    · exact Int.le_refl _
  · rw [if_neg c]
    have hpp : ∀ n, t.place n = s.place n := fun n => by unfold Rc.place; rw [ht0.1, ht0.2.1]
    rcases htm with h1 | ⟨h1, h2, h3, h4, h5, h6⟩
    · exact .inl h1
    · exact .inr ⟨h1, by rw [ht0.1]; exact h2, by rw [hpp]; exact h3, by rw [hpp, hpp, ht0.2.2]; exact h4, h5, by rw [ht0.1]; exact h6⟩
theorem tick_ok {s : Rc} (h : s.okB = true) : (tickRc s).1.okB = true := by
  obtain ⟨hc, hu, hf, hm⟩ := ok_iff.1 h
  unfold tickRc
  rw [if_neg (by rw [h]; decide)]
  dsimp only
  have hq : 0 ≤ (tick1 s).quiet ∧ (tick1 s).quiet ≤ s.lk.quiet := by
    have := hc.q
    unfold tick1; dsimp only; split <;> omega
  by_cases c : s.left = 0
  · rw [if_pos c]
    refine ok_iff.2 ⟨hc.same rfl rfl rfl hc.u hq rfl, hu, hf, ?_⟩
    exact hm
  · rw [if_neg c]
    rcases mark_iff.1 hm with ⟨_, h2⟩ | ⟨m1, m2, m3, m4, m5, m6⟩
    · exact absurd h2 c
    unfold tick2
    by_cases c2 : s.left - 1 > 0
    · rw [if_pos (show ({ tick1 s with left := s.left - 1 } : Rc).left > 0 from c2)]
      refine ok_iff.2 ⟨hc.same rfl rfl rfl hc.u hq rfl, hu, hf, mark_iff.2 (.inr ⟨m1, m2, m3, m4, ?_, ?_⟩)⟩
      · show 1 ≤ s.left - 1; omega
      · show s.left - 1 ≤ s.lk.wait; omega
    · rw [if_neg (show ¬ ({ tick1 s with left := s.left - 1 } : Rc).left > 0 from c2)]
      refine start_ok (hc.same rfl rfl rfl ?_ hq rfl) ?_ hf ⟨fun _ => ?_, fun hh => absurd rfl hh⟩
      · show snOk s.lk.bits (if s.place s.mark > s.place s.upto then s.mark else s.upto)
        split
        · exact m2
        · exact hc.u
      · show s.place (if s.place s.mark > s.place s.upto then s.mark else s.upto) ≤ s.place s.next
        split
        · exact m4
        · exact hu
      · show s.left - 1 = 0; omega
theorem rep_ok {s : Rc} {size : Int} (h : s.okB = true) (h0 : (repR s size).2.2 = 0) : (repR s size).1 = { s with due := false, quiet := s.lk.quiet } ∧ (repR s size).1.okB = true := by
  obtain ⟨hc, hu, hf, hm⟩ := ok_iff.1 h
  have e : (repR s size).1 = { s with due := false, quiet := s.lk.quiet } := by
    unfold repR at h0 ⊢
    rw [if_neg (by rw [h]; decide)] at h0 ⊢
    by_cases h2 : size < 0 ∨ size > 4096
    · rw [if_pos h2] at h0; cases h0
    rw [if_neg h2] at h0 ⊢
    by_cases h3 : s.due = false ∨ s.quiet > 0
    · rw [if_pos h3] at h0; cases h0
    rw [if_neg h3] at h0 ⊢
    dsimp only at h0 ⊢
    by_cases h4 : (fitR s.lk.bits (statR s).1 size).2 ≠ 0
    · rw [if_pos h4] at h0; exact absurd h0 h4
    · rw [if_neg h4]
  refine ⟨e, ?_⟩
  rw [e]
  have hl := hc.lk
  obtain ⟨-, -, -, -, hq, -⟩ := hl
  refine ok_iff.2 ⟨hc.same rfl rfl rfl hc.u ⟨hq.1, Int.le_refl _⟩ rfl, hu, hf, hm⟩
theorem poll_ok {s : Rc} {p : Pc} (h : s.okB = true) : (pollR s p).okB = true := by
  obtain ⟨hc, hu, hf, hm⟩ := ok_iff.1 h
  unfold pollR
  split
  · exact ok_iff.2 ⟨hc.same rfl rfl rfl hc.n hc.q rfl, Int.le_refl _, hf, hm⟩
  · exact h
end Go.Sx
/- Chapter 21, plain: a valid receiver stays valid behind a piece. -/
namespace Go.Sx
open Go.Proofs.Ythceaojjeokclaa
theorem place_one {s : Rc} {x : Int} {l : List Pa} (hb : bitsOk s.lk.bits) (hf : snOk s.lk.bits s.first) (hx : snOk s.lk.bits x) (h : 1 ≤ s.place x) : Rc.place { s with first := s.behind s.first, parts := l } x = s.place x - 1 := by
  show way s.lk.bits (s.behind s.first) x = way s.lk.bits s.first x - 1
  have h : 1 ≤ way s.lk.bits s.first x := h
  unfold Rc.behind
  unfold way snOk at *
  rcases pow_bits hb with e | e | e | e | e <;> rw [e] at hf hx h ⊢ <;> omega
theorem behind_ok {s : Rc} (hb : bitsOk s.lk.bits) (n : Int) : snOk s.lk.bits (s.behind n) := by
  unfold Rc.behind snOk
  rcases pow_bits hb with e | e | e | e | e <;> rw [e] <;> omega
theorem place_behind {s : Rc} {n : Int} (hb : bitsOk s.lk.bits) (hf : snOk s.lk.bits s.first) (hn : snOk s.lk.bits n) (h : s.place n < 2 ^ (s.lk.bits - 1).toNat) : s.place (s.behind n) = s.place n + 1 := by
  have h1 := (pow_bits1 hb).1
  unfold Rc.behind Rc.place way snOk at *
  rcases pow_bits hb with e | e | e | e | e <;> rw [e] at hf hn h h1 ⊢ <;> omega
/-- the first partial goes when it is done -/
theorem drop_one {s : Rc} {p : Pa} {l : List Pa} (h : Core s) (hp : s.parts = p :: l) (hf : p.sn = s.first) : Core { s with first := s.behind s.first, parts := l } := by
  have hb := h.lk.1
  have h0 : s.place p.sn = 0 := by rw [hf]; exact place_self s
  have hall := h.all
  have hasc := h.asc
  have hlast := h.last
  rw [hp] at hall hasc hlast
  rw [List.pairwise_cons] at hasc
  have hn1 : 1 ≤ s.place s.next := by have := (hall p (by simp)).2.2; omega
  have hpl : ∀ x ∈ l, Rc.place { s with first := s.behind s.first, parts := l } x.sn = s.place x.sn - 1 := fun x hx => place_one hb h.f (hall x (by simp [hx])).2.1 (by have := hasc.1 x hx; omega)
  have hpn : Rc.place { s with first := s.behind s.first, parts := l } s.next = s.place s.next - 1 := place_one hb h.f h.n hn1
  refine ⟨h.lk, behind_ok hb _, h.n, h.u, ?_, h.q, ?_, ?_, ?_⟩
  · show Rc.place { s with first := s.behind s.first, parts := l } s.next ≤ 2 ^ (s.lk.bits - 1).toNat
    rw [hpn]; have := h.half; omega
  · intro x hx
    have h2 := hall x (by simp [show x ∈ l from hx])
    refine ⟨h2.1, h2.2.1, ?_⟩
    show Rc.place { s with first := s.behind s.first, parts := l } x.sn < Rc.place { s with first := s.behind s.first, parts := l } s.next
    rw [hpl x hx, hpn]; have := h2.2.2; omega
  · exact hasc.2.imp_of_mem fun {x y} hx hy hxy => by rw [hpl x hx, hpl y hy]; omega
  · show ((l.getLast?).map fun x => Rc.place { s with first := s.behind s.first, parts := l } x.sn).getD (-1) = Rc.place { s with first := s.behind s.first, parts := l } s.next - 1
    rw [hpn]
    rw [List.getLast?_cons] at hlast
    cases hg : l.getLast? with
    | none =>
      rw [hg] at hlast
      simp only [Option.getD_none, Option.map_some, Option.getD_some] at hlast
      simp only [Option.map_none, Option.getD_none]; omega
    | some x =>
      rw [hg] at hlast
      simp only [Option.getD_some, Option.map_some] at hlast
      simp only [Option.map_some, Option.getD_some]
      rw [hpl x (List.mem_of_getLast? hg)]; omega
theorem adv1_ok : ∀ (l : List Pa) (s : Rc), s.parts = l → Core s → Core (adv1 s) ∧ NoFirst (adv1 s)
  | [], s, hs, h => by
    have e : adv1 s = s := by
      unfold adv1; rw [hs]
      show ({ s with first := s.first, parts := [] } : Rc) = s
      rw [← hs]
    rw [e]
    exact ⟨h, fun x hx => by rw [hs] at hx; simp at hx⟩
  | p :: l, s, hs, h => by
    by_cases c : p.sn = s.first ∧ p.done = true
    · have e : adv1 s = adv1 { s with first := s.behind s.first, parts := l } := by
        unfold adv1; rw [hs, dropS, if_pos c]; rfl
      rw [e]
      exact adv1_ok l _ rfl (drop_one h hs c.1)
    · have e : adv1 s = s := by
        unfold adv1; rw [hs, dropS, if_neg c]
        show ({ s with first := s.first, parts := p :: l } : Rc) = s
        rw [← hs]
      rw [e]
      refine ⟨h, fun x hx => ?_⟩
      have hasc := h.asc
      rw [hs] at hx hasc
      rw [List.pairwise_cons] at hasc
      rcases List.mem_cons.1 hx with rfl | hx
      · exact fun hh => c ⟨hh.2, hh.1⟩
      · intro hh
        have h1 := hasc.1 x hx
        rw [hh.2, place_self] at h1
        have := place_ge s p.sn
        omega
theorem adv_ok {s : Rc} (h : Core s) : Core (advS s) ∧ (advS s).place (advS s).upto ≤ (advS s).place (advS s).next ∧ NoFirst (advS s) := by
  obtain ⟨h1, h2⟩ := adv1_ok _ s rfl h
  have e : advS s = adv2 (adv1 s) := rfl
  rw [e]
  obtain ⟨t, ht⟩ : ∃ t, t = adv1 s := ⟨_, rfl⟩
  rw [← ht] at h1 h2 ⊢
  unfold adv2
  by_cases c : t.place t.upto > t.place t.next
  · rw [if_pos c]
    refine ⟨h1.same rfl rfl rfl h1.f h1.q rfl, ?_, h2⟩
    show t.place t.first ≤ t.place t.next
    rw [place_self]; exact place_ge t t.next
  · rw [if_neg c]
    exact ⟨h1, by omega, h2⟩
theorem while_split {α : Type} (q : α → Bool) : ∀ l : List α, (∀ x ∈ l.take (l.takeWhile q).length, q x = true) ∧ ∀ x, (l.drop (l.takeWhile q).length).head? = some x → q x = false
  | [] => ⟨fun x hx => by simp at hx, fun x hx => by simp at hx⟩
  | y :: l => by
    obtain ⟨h1, h2⟩ := while_split q l
    cases hy : q y with
    | false =>
      simp only [List.takeWhile_cons, hy]
      exact ⟨fun x hx => by simp at hx, fun x hx => by simp at hx; rw [← hx]; exact hy⟩
    | true =>
      simp only [List.takeWhile_cons, hy, if_true, List.length_cons, List.take_succ_cons, List.drop_succ_cons]
      refine ⟨fun x hx => ?_, h2⟩
      rcases List.mem_cons.1 hx with rfl | hx
      · exact hy
      · exact h1 x hx
/-- the partials, with the place of a number among them -/
theorem at_split {s : Rc} (h : Core s) {n : Int} (hn : snOk s.lk.bits n) :
    (∀ x ∈ s.parts.take (atP s n), s.place x.sn < s.place n) ∧ ((foundB s n = false ∧ ∀ x ∈ s.parts.drop (atP s n), s.place n < s.place x.sn) ∨
      ∃ y l, foundB s n = true ∧ s.parts.drop (atP s n) = y :: l ∧ s.parts[atP s n]? = some y ∧ y.sn = n ∧ ∀ x ∈ l, s.place n < s.place x.sn) := by
  obtain ⟨h1, h2⟩ := while_split (fun p : Pa => decide (s.place p.sn < s.place n)) s.parts
  refine ⟨fun x hx => of_decide_eq_true (h1 x hx), ?_⟩
  have hasc := h.asc.drop (i := atP s n)
  have h2 : ∀ x, (s.parts.drop (atP s n)).head? = some x → s.place n ≤ s.place x.sn := fun x hx => by have := of_decide_eq_false (h2 x hx); omega
  have hgd : s.parts[atP s n]? = (s.parts.drop (atP s n)).head? := by rw [List.head?_drop]
  cases hd : s.parts.drop (atP s n) with
  | nil =>
    left
    refine ⟨?_, fun x hx => by simp at hx⟩
    unfold foundB; rw [hgd, hd]; rfl
  | cons y l =>
    rw [hd] at hasc h2 hgd
    rw [List.pairwise_cons] at hasc
    have h3 := h2 y rfl
    have hy : y ∈ s.parts := List.mem_of_mem_drop (i := atP s n) (by rw [hd]; simp)
    by_cases c : y.sn = n
    · right
      refine ⟨y, l, ?_, rfl, hgd, c, fun x hx => ?_⟩
      · unfold foundB; rw [hgd]; exact decide_eq_true c
      · have := hasc.1 x hx; rw [c] at this; exact this
    · left
      have h4 : s.place n ≠ s.place y.sn := fun e => c (place_inj h.lk.1 (h.all y hy).2.1 hn e.symm)
      refine ⟨?_, fun x hx => ?_⟩
      · unfold foundB; rw [hgd]; exact decide_eq_false c
      · rcases List.mem_cons.1 hx with rfl | hx
        · omega
        · have := hasc.1 x hx; omega
theorem last_app {A : List Pa} {y : Pa} {B : List Pa} : (A ++ y :: B).getLast? = some (B.getLast?.getD y) := by
  rw [List.getLast?_append, List.getLast?_cons]; rfl
theorem put_core {s : Rc} {p : Pc} (h : Core s) (hp : p.ok s.lk.bits) (hr : refusedS s p = 0) : Core (putP s p) := by
  obtain ⟨hb, hsn, -, -, -, hpo, hpd, hpe⟩ := hp
  have hsn : snOk s.lk.bits p.sn := hsn
  have hp3 : (0 ≤ p.off ∧ p.off ≤ 2054) ∧ 1 ≤ p.data.length ∧ p.off + p.data.length ≤ 2054 := ⟨hpo, hpd, hpe⟩
  have hold : s.place p.sn < 2 ^ (s.lk.bits - 1).toNat := by
    unfold refusedS at hr
    split at hr
    · cases hr
    · omega
  have hold' : ¬ s.place p.sn ≥ 2 ^ (s.lk.bits - 1).toNat := by omega
  obtain ⟨hA, hsp⟩ := at_split h hsn
  obtain ⟨A, hAe⟩ : ∃ A, A = s.parts.take (atP s p.sn) := ⟨_, rfl⟩
  have hpl : s.parts = A ++ s.parts.drop (atP s p.sn) := by rw [hAe, List.take_append_drop]
  have hkl : atP s p.sn ≤ s.parts.length := by
    have := congrArg List.length (List.takeWhile_append_dropWhile (p := fun p' : Pa => decide (s.place p'.sn < s.place p.sn)) (l := s.parts))
    rw [List.length_append] at this
    show (s.parts.takeWhile _).length ≤ _
    omega
  have hAl : A.length = atP s p.sn := by rw [hAe, List.length_take]; omega
  obtain ⟨y', hy'⟩ : ∃ y', y' = if compB (mergedS s p) then donePa p.sn else mergedS s p := ⟨_, rfl⟩
  have hput : (putP s p).parts = (insS s p).set (atP s p.sn) y' := by rw [hy']; rfl
  have key : ∃ (x : Pa) (B : List Pa), Open x ∧ x.sn = p.sn ∧ contraB x p = false ∧ mergedS s p = mergeS x p ∧ (putP s p).parts = A ++ y' :: B ∧ (∀ z ∈ B, z ∈ s.parts ∧ s.place p.sn < s.place z.sn) ∧ (B.Pairwise fun x y => s.place x.sn < s.place y.sn) ∧
      (B = [] → s.place p.sn ≥ s.place s.next ∨ s.place p.sn = s.place s.next - 1) ∧ (B ≠ [] → B.getLast? = s.parts.getLast?) := by
    have hascd := h.asc.drop (i := atP s p.sn)
    have hlast := h.last
    rcases hsp with ⟨hf, hB⟩ | ⟨y, B, hf, hd, hg, hysn, hB⟩
    · have hi : insS s p = A ++ newPa p.sn :: s.parts.drop (atP s p.sn) := by rw [insS, if_neg (by rw [hf]; decide), hAe]
      refine ⟨newPa p.sn, s.parts.drop (atP s p.sn), open_new _, rfl, contra_new _ _ (by show 1 ≤ p.off + p.data.length; omega), ?_, ?_, fun z hz => ⟨List.mem_of_mem_drop hz, hB z hz⟩, hascd, fun hn => ?_, fun hn => ?_⟩
      · unfold mergedS; rw [hi, List.getElem?_append_right (by omega), hAl, Nat.sub_self]; rfl
      · rw [hput, hi, List.set_append_right _ _ (by omega), hAl, Nat.sub_self]; rfl
      · left
        rw [hn, List.append_nil] at hpl
        rw [hpl] at hlast
        cases hg : A.getLast? with
        | none =>
          rw [hg] at hlast
          simp only [Option.map_none, Option.getD_none] at hlast
          have := place_ge s p.sn; omega
        | some x =>
          rw [hg] at hlast
          simp only [Option.map_some, Option.getD_some] at hlast
          have := hA x (by rw [← hAe]; exact List.mem_of_getLast? hg)
          omega
      · rw [hpl, List.getLast?_append]
        rw [List.drop_append, hAl, Nat.sub_self, List.drop_zero, List.drop_of_length_le (by omega), List.nil_append]
        cases hg : (s.parts.drop (atP s p.sn)).getLast? with
        | none => exact absurd (List.getLast?_eq_none_iff.1 hg) hn
        | some x => rfl
    · have hi : insS s p = A ++ y :: B := by rw [insS, if_pos hf, hpl, hd]
      rw [hd, List.pairwise_cons] at hascd
      have hym : y ∈ s.parts := List.mem_of_getElem? hg
      have hr2 := hr
      unfold refusedS at hr2
      rw [if_neg hold', hg] at hr2
      dsimp only at hr2
      rw [if_pos hysn] at hr2
      have hyd : y.done = false := by
        cases hyd : y.done with
        | false => rfl
        | true => rw [hyd] at hr2; simp at hr2
      rw [if_neg (by rw [hyd]; decide)] at hr2
      have hyc : contraB y p = false := by
        cases hyc : contraB y p with
        | false => rfl
        | true => rw [hyc] at hr2; simp at hr2
      refine ⟨y, B, open_of hyd (h.all y hym).1, hysn, hyc, ?_, ?_, fun z hz => ⟨List.mem_of_mem_drop (i := atP s p.sn) (by rw [hd]; simp [hz]), hB z hz⟩, hascd.2, fun hn => ?_, fun hn => ?_⟩
      · unfold mergedS; rw [hi, List.getElem?_append_right (by omega), hAl, Nat.sub_self]; rfl
      · rw [hput, hi, List.set_append_right _ _ (by omega), hAl, Nat.sub_self]; rfl
      · right
        rw [hn] at hd
        rw [hpl, hd, last_app] at hlast
        simp only [List.getLast?_nil, Option.getD_none, Option.map_some, Option.getD_some, hysn] at hlast
        exact hlast
      · rw [hpl, hd, last_app]
        cases hg2 : B.getLast? with
        | none => exact absurd (List.getLast?_eq_none_iff.1 hg2) hn
        | some x => rfl
  obtain ⟨x, B, hox, hxs, hxc, hmg, hparts, hBm, hBa, hB0, hB1⟩ := key
  have hys : y'.sn = p.sn := by
    rw [hy']
    split
    · rfl
    · rw [hmg]; exact hxs
  have hyp : paB y' = true := by
    rw [hy']
    by_cases hc : compB (mergedS s p) = true
    · rw [if_pos hc]; rfl
    · rw [if_neg hc, hmg]
      exact merge_pa hox hxs hp3 hxc (by rw [← hmg]; simpa using hc)
  have hpl2 : ∀ n, (putP s p).place n = s.place n := fun _ => rfl
  have hnx : (putP s p).next = if s.place p.sn ≥ s.place s.next then s.behind p.sn else s.next := rfl
  have hpn : s.place (putP s p).next = if s.place p.sn ≥ s.place s.next then s.place p.sn + 1 else s.place s.next := by
    rw [hnx]
    split
    · exact place_behind hb h.f hsn hold
    · rfl
  have hge : s.place s.next ≤ s.place (putP s p).next := by rw [hpn]; split <;> omega
  have hge2 : s.place p.sn < s.place (putP s p).next := by rw [hpn]; split <;> omega
  refine ⟨h.lk, h.f, ?_, h.u, ?_, h.q, ?_, ?_, ?_⟩
  · show snOk s.lk.bits (putP s p).next
    rw [hnx]
    split
    · exact behind_ok hb _
    · exact h.n
  · show s.place (putP s p).next ≤ 2 ^ (s.lk.bits - 1).toNat
    have := h.half
    rw [hpn]; split <;> omega
  · intro z hz
    rw [hparts] at hz
    show paB z = true ∧ snOk s.lk.bits z.sn ∧ s.place z.sn < s.place (putP s p).next
    rcases List.mem_append.1 hz with hz | hz
    · have := h.all z (by rw [hpl]; exact List.mem_append_left _ hz)
      exact ⟨this.1, this.2.1, by omega⟩
    · rcases List.mem_cons.1 hz with rfl | hz
      · exact ⟨hyp, by rw [hys]; exact hsn, by rw [hys]; exact hge2⟩
      · have := h.all z (hBm z hz).1
        exact ⟨this.1, this.2.1, by omega⟩
  · show (putP s p).parts.Pairwise fun x y => s.place x.sn < s.place y.sn
    rw [hparts, List.pairwise_append]
    refine ⟨?_, List.pairwise_cons.2 ⟨fun z hz => ?_, hBa⟩, fun z hz u hu => ?_⟩
    · have := h.asc.take (i := atP s p.sn); rwa [← hAe] at this
    · rw [hys]; exact (hBm z hz).2
    · have h1 := hA z (by rw [← hAe]; exact hz)
      rcases List.mem_cons.1 hu with rfl | hu
      · rw [hys]; exact h1
      · have := (hBm u hu).2; omega
  · show (((putP s p).parts.getLast?).map fun x => s.place x.sn).getD (-1) = s.place (putP s p).next - 1
    rw [hparts, last_app, hpn]
    simp only [Option.map_some, Option.getD_some]
    by_cases hBe : B = []
    · rw [hBe]
      simp only [List.getLast?_nil, Option.getD_none, hys]
      rcases hB0 hBe with h1 | h1
      · rw [if_pos h1]; omega
      · rw [if_neg (by omega)]; omega
    · have h1 := hB1 hBe
      cases hg : B.getLast? with
      | none => rw [List.getLast?_eq_none_iff] at hg; exact absurd hg hBe
      | some z =>
        have hl := h.last
        rw [← h1, hg] at hl
        simp only [Option.map_some, Option.getD_some] at hl
        have := (hBm z (List.mem_of_getLast? hg)).2
        rw [if_neg (by omega)]
        simp only [Option.getD_some]
        exact hl
theorem rec_ok {s : Rc} {bs : List Int} (h : s.okB = true) (hg : ∀ b bs, (decP b bs).2 = 0 → (decP b bs).1.ok b) : (recS s bs).1.okB = true := by
  obtain ⟨hc, hu, hf, hm⟩ := ok_iff.1 h
  unfold recS
  rw [if_neg (by rw [h]; decide)]
  dsimp only
  by_cases h2 : (decP s.lk.bits bs).2 ≠ 0
  · rw [if_pos h2]; exact h
  rw [if_neg h2]
  by_cases h3 : refusedS s (decP s.lk.bits bs).1 ≠ 0
  · rw [if_pos h3]; exact poll_ok h
  rw [if_neg h3]
  refine poll_ok ?_
  have hk := put_core hc (hg _ _ (by simpa using h2)) (by simpa using h3)
  obtain ⟨a1, a2, a3⟩ := adv_ok hk
  refine start_ok a1 a2 a3 ?_
  have hw := mark_w hm
  have e : ∀ t : Rc, (advS t).mark = t.mark ∧ (advS t).left = t.left ∧ (advS t).lk = t.lk := fun t => by unfold advS adv2; split <;> exact ⟨rfl, rfl, rfl⟩
  obtain ⟨e1, e2, e3⟩ := e (putP s (decP s.lk.bits bs).1)
  unfold MarkW
  rw [e1, e2, e3]
  exact hw
theorem new_ok {l : Lk} (h : lkOk l) {f : Int} (hf : snOk l.bits f) : Rc.okB ⟨l, f, f, f, -1, 0, 0, false, []⟩ = true := by
  refine ok_iff.2 ⟨⟨h, hf, hf, hf, ?_, ⟨Int.le_refl _, h.2.2.2.2.1.1⟩, fun x hx => by simp at hx, .nil, ?_⟩, Int.le_refl _, fun x hx => by simp at hx, rfl⟩
  · have := pow_bits1 h.1
    rw [show Rc.place ⟨l, f, f, f, -1, 0, 0, false, []⟩ f = 0 from place_self _]
    show (0 : Int) ≤ 2 ^ (l.bits - 1).toNat
    omega
  · rw [show Rc.place ⟨l, f, f, f, -1, 0, 0, false, []⟩ f = 0 from place_self _]; rfl
end Go.Sx
/- Chapter 21, plain: the report of a valid receiver is valid. -/
namespace Go.Sx
open Go.Proofs.Ythceaojjeokclaa
def lastO : Option Rg → List Rg → Option Rg
  | p, [] => p
  | _, x :: L => lastO (some x) L
theorem lastO_mem : ∀ (L : List Rg) (p : Option Rg) (q : Rg), lastO p L = some q → q ∈ L ∨ p = some q
  | [], p, q, h => .inr h
  | x :: L, p, q, h => by
    rcases lastO_mem L (some x) q h with h | h
    · exact .inl (by simp [h])
    · injection h with h; subst h; exact .inl (by simp)
def linkP (s : Rc) : Option Rg → Rg → Prop
  | none, _ => True
  | some q, r => s.place q.sn ≤ s.place r.sn ∧ (s.place r.sn = s.place q.sn → ¬ (whole q ∨ whole r ∨ r.f ≤ q.t))
/-- ranges of a report, by their places -/
def chP (s : Rc) : Option Rg → List Rg → Prop
  | _, [] => True
  | p, r :: l => (snOk s.lk.bits r.sn ∧ (whole r ∨ isPart r) ∧ linkP s p r) ∧ chP s (some r) l
theorem chP_app (s : Rc) (M : List Rg) : ∀ (L : List Rg) (p : Option Rg), chP s p (L ++ M) ↔ chP s p L ∧ chP s (lastO p L) M
  | [], p => by simp [chP, lastO]
  | x :: L, p => by simp only [List.cons_append, chP, lastO, chP_app s M L, and_assoc]
theorem way_place {s : Rc} {x n : Int} (hb : bitsOk s.lk.bits) (hf : snOk s.lk.bits s.first) (hx : snOk s.lk.bits x) (hn : snOk s.lk.bits n) (h : s.place x ≤ s.place n) : way s.lk.bits x n = s.place n - s.place x := by
  have h : way s.lk.bits s.first x ≤ way s.lk.bits s.first n := h
  show way s.lk.bits x n = way s.lk.bits s.first n - way s.lk.bits s.first x
  unfold way snOk at *
  rcases pow_bits hb with e | e | e | e | e <;> rw [e] at hf hx hn h ⊢ <;> omega
theorem chP_chain {s : Rc} {n : Int} (hb : bitsOk s.lk.bits) (hf : snOk s.lk.bits s.first) (hn : snOk s.lk.bits n) (hh : s.place n ≤ 2 ^ (s.lk.bits - 1).toNat) : ∀ (L : List Rg) (p : Option Rg), chP s p L → (∀ r ∈ L, s.place r.sn < s.place n) → (∀ q, p = some q → snOk s.lk.bits q.sn ∧ s.place q.sn < s.place n) → chainB s.lk.bits n p L = true
  | [], _, _, _, _ => rfl
  | r :: L, p, h, hL, hp => by
    obtain ⟨⟨h1, h2, h3⟩, h4⟩ := h
    have hr := hL r (by simp)
    have hw := way_place hb hf h1 hn (by omega)
    have h0 := place_ge s r.sn
    simp only [chainB, Bool.and_eq_true, decide_eq_true_iff]
    refine ⟨⟨⟨h1, by rw [hw]; omega, h2⟩, ?_⟩, chP_chain hb hf hn hh L (some r) h4 (fun x hx => hL x (by simp [hx])) fun q hq => by injection hq with hq; subst hq; exact ⟨h1, hr⟩⟩
    cases p with
    | none => trivial
    | some q =>
      obtain ⟨hq1, hq2⟩ := hp q rfl
      have hwq := way_place hb hf hq1 hn (by omega)
      obtain ⟨h5, h6⟩ := h3
      exact ⟨by rw [hw, hwq]; omega, fun e => h6 (by rw [hw, hwq] at e; omega)⟩
theorem chP_norm {s : Rc} {n : Int} (hn : snOk s.lk.bits n) : ∀ (M : List Rg) (p : Option Rg) (t : Int), normB t M = true → -1 ≤ t → (∀ r ∈ M, r.sn = n ∧ r.t ≤ 65535) → (∀ q, p = some q → q.sn = n ∧ ¬ whole q ∧ q.t = t) → chP s p M
  | [], _, _, _, _, _, _ => trivial
  | r :: M, p, t, h, ht, hr, hp => by
    simp only [normB, Bool.and_eq_true, decide_eq_true_iff] at h
    obtain ⟨hr1, hr2⟩ := hr r (by simp)
    have hnw : ¬ whole r := fun h => by have := h.1; have := h.2; omega
    refine ⟨⟨by rw [hr1]; exact hn, .inr ⟨by omega, by omega, hr2⟩, ?_⟩, chP_norm hn M (some r) r.t h.2 (by omega) (fun x hx => hr x (by simp [hx])) fun q hq => by injection hq with hq; subst hq; exact ⟨hr1, hnw, rfl⟩⟩
    cases p with
    | none => trivial
    | some q =>
      obtain ⟨h1, h2, h3⟩ := hp q rfl
      exact ⟨by rw [hr1, h1]; exact Int.le_refl _, fun _ h => by rcases h with h | h | h; exact h2 h; exact hnw h; omega⟩
/-- what is missing of a number, as ranges of a report -/
theorem miss_chP {s : Rc} {n : Int} (h : Core s) (hn : snOk s.lk.bits n) : chP s none (missP s n) ∧ ∀ r ∈ missP s n, r.sn = n := by
  have key : ∀ o : Option Pa, (∀ x, o = some x → x ∈ s.parts ∧ x.sn = n) → chP s none (missO n o) ∧ ∀ r ∈ missO n o, r.sn = n := fun o ho => by
    cases o with
    | none => exact ⟨⟨⟨hn, .inl ⟨rfl, rfl⟩, trivial⟩, trivial⟩, fun r hr => by simp [missO] at hr; rw [hr]⟩
    | some x =>
      obtain ⟨hx, hxs⟩ := ho x rfl
      have hpb := (h.all x hx).1
      unfold missO
      by_cases hd : x.done = true
      · simp only [hd, if_true]
        exact ⟨trivial, fun r hr => by simp at hr⟩
      · have hd : x.done = false := by simpa using hd
        obtain ⟨-, h2, h3, h4, h5, -⟩ := open_of hd hpb
        simp only [hd, Bool.false_eq_true, if_false]
        have hm := gaps_sn n (if x.len = -1 then 65535 else x.len) x.come 0
        have hend := end_come h3 h4
        refine ⟨chP_norm hn _ none (-1) (gaps_norm n _ x.come (-1) 0 (by simpa using h3) (by omega)) (Int.le_refl _) (fun r hr => ⟨hm r hr, ?_⟩) (fun q hq => by cases hq), hm⟩
        have h6 := gaps_le n (if x.len = -1 then 65535 else x.len) x.come 0 (fun y hy => by
          have h7 := norm_lt _ _ h3 y hy
          have h8 := hend y hy
          split <;> omega) r hr
        split at h6 <;> omega
  refine key _ fun x hx => ?_
  unfold idx at hx
  cases hi : s.parts.findIdx? (fun p => decide (p.sn = n)) with
  | none => rw [hi] at hx; simp at hx
  | some i =>
    rw [hi] at hx
    obtain ⟨h1, h2, _⟩ := List.findIdx?_eq_some_iff_getElem.1 hi
    simp only [Option.map_some, Option.getD_some] at hx
    rw [if_neg (by omega), Int.toNat_natCast, List.getElem?_eq_getElem h1] at hx
    injection hx with hx
    subst hx
    exact ⟨List.getElem_mem h1, by simpa using h2⟩
theorem statS_ok {s : Rc} (h : Core s) (hu : s.place s.upto ≤ s.place s.next) : ∀ (k : Nat) (n : Int) (O : List Rg), snOk s.lk.bits n → s.place n + k = s.place s.upto → O.length ≤ 64 → chP s none O → (∀ r ∈ O, snOk s.lk.bits r.sn ∧ s.place r.sn < s.place n) → okS s.lk.bits (statS s k n O)
  | 0, n, O, hn, hk, hl, hc, hO => by
    have hb := h.lk.1
    have e : n = s.upto := place_inj hb hn h.u (by omega)
    have hh := h.half
    subst e
    exact ⟨hb, h.u, hl, chP_chain hb h.f h.u (by omega) O none hc (fun r hr => (hO r hr).2) fun q hq => by cases hq⟩
  | k + 1, n, O, hn, hk, hl, hc, hO => by
    have hb := h.lk.1
    have hh := h.half
    unfold statS
    by_cases c : O.length + (missP s n).length > 64
    · rw [if_pos c]
      exact ⟨hb, hn, hl, chP_chain hb h.f hn (by omega) O none hc (fun r hr => (hO r hr).2) fun q hq => by cases hq⟩
    · rw [if_neg c]
      have hpb := place_behind hb h.f hn (by omega)
      obtain ⟨m1, m2⟩ := miss_chP h hn
      refine statS_ok h hu k (s.behind n) (O ++ missP s n) (behind_ok hb n) (by rw [hpb]; omega) (by rw [List.length_append]; omega) ((chP_app s _ _ _).2 ⟨hc, ?_⟩) fun r hr => ?_
      · cases hM : missP s n with
        | nil => trivial
        | cons r M =>
          rw [hM] at m1 m2
          obtain ⟨⟨g1, g2, _⟩, g3⟩ := m1
          refine ⟨⟨g1, g2, ?_⟩, g3⟩
          cases hq : lastO none O with
          | none => trivial
          | some q =>
            rcases lastO_mem O none q hq with h1 | h1
            · have h2 := (hO q h1).2
              have h3 := m2 r (by simp)
              exact ⟨by rw [h3]; omega, fun e => by rw [h3] at e; omega⟩
            · cases h1
      · rw [hpb]
        rcases List.mem_append.1 hr with hr | hr
        · exact ⟨(hO r hr).1, by have := (hO r hr).2; omega⟩
        · rw [m2 r hr]; exact ⟨hn, by omega⟩
/-- the report of a valid receiver is valid -/
theorem statR_ok {s : Rc} (h : s.okB = true) : okS s.lk.bits (statR s).1 := by
  obtain ⟨hc, hu, -, -⟩ := ok_iff.1 h
  unfold statR
  rw [if_neg (by rw [h]; decide)]
  have := place_ge s s.upto
  refine statS_ok hc hu _ _ [] hc.f (by rw [place_self]; omega) (by simp) trivial fun r hr => by simp at hr
/-- with room for all, a report is left as it is -/
theorem fitS_all (sp u : Int) (L : List Rg) : ∀ (l : List Rg) (k : Nat) (used : Int) (unit : Nat) (p : Option Rg), used + 6 * l.length ≤ sp → fitS sp u L k used unit p l = ⟨u, L⟩
  | [], _, _, _, _, _ => rfl
  | r :: l, k, used, unit, p, h => by
    have hz : szR r ≤ 6 := by unfold szR; split <;> omega
    simp only [List.length_cons] at h
    unfold fitS
    rw [if_neg (by omega)]
    exact fitS_all sp u L l _ _ _ _ (by omega)
theorem fit_all {b : Int} {s : Stt} (h : okS b s) : fitR b s 4096 = (s, 0) := by
  unfold fitR
  rw [if_neg (fun hh => hh h), if_neg (by omega), fitS_all _ _ _ _ _ _ _ _ (by have := h.2.2.1; omega)]
/-- a report whole: a receiver of which one is due, and which is not quiet -/
theorem rep_all {s : Rc} (h : s.okB = true) (hd : s.due = true) (hq : ¬ s.quiet > 0) : repR s 4096 = ({ s with due := false, quiet := s.lk.quiet }, (encS s.lk.bits (statR s).1).1, 0) := by
  unfold repR
  rw [if_neg (by rw [h]; decide), if_neg (by omega), if_neg (by rw [hd]; simp; omega), fit_all (statR_ok h)]
  rfl
end Go.Sx
/- Chapter 21, plain: a receiver with one unit behind a gap; no program in sight. -/
namespace Go.Sx
theorem decP_bytesP {b : Int} {p : Pc} (h : p.ok b) : decP b p.bytes = (p, 0) := by
  obtain ⟨sn, part, poll, off, d⟩ := p
  have hf := Pc.first_range h
  obtain ⟨hb, h0, h1, h2, h3, h4, h5, h6⟩ := h
  simp only at h0 h1 h2 h3 h4 h5 h6
  have hp := pow_bits hb
  obtain ⟨f, hfe⟩ : ∃ f, f = Pc.first ⟨sn, part, poll, off, d⟩ := ⟨_, rfl⟩
  have hfe2 := hfe
  simp only [Pc.first] at hfe2
  rw [← hfe] at hf
  have g0 : (Pc.bytes ⟨sn, part, poll, off, d⟩).getD 0 0 = f / 256 := by rw [hfe]; rfl
  have g1 : (Pc.bytes ⟨sn, part, poll, off, d⟩).getD 1 0 = f % 256 := by rw [hfe]; rfl
  have ef : 256 * (Pc.bytes ⟨sn, part, poll, off, d⟩).getD 0 0 + (Pc.bytes ⟨sn, part, poll, off, d⟩).getD 1 0 = f := by rw [g0, g1]; omega
  have hh2 : (part = 0 ∨ part = 1) ∧ headN part = 2 ∨ ¬ (part = 0 ∨ part = 1) ∧ headN part = 4 := by
    unfold headN; by_cases hc : part = 0 ∨ part = 1
    · exact .inl ⟨hc, if_pos hc⟩
    · exact .inr ⟨hc, if_neg hc⟩
  have hraw : rawP (Pc.bytes ⟨sn, part, poll, off, d⟩) = ⟨sn, part, poll, off, d⟩ := by
    unfold rawP
    simp only [ef]
    have e1 : f % 4096 = sn := by omega
    have e2 : f / 4096 % 4 = part := by omega
    have e3 : f / 16384 % 2 = poll := by omega
    rw [e1, e2, e3]
    rcases hh2 with ⟨hc, hh⟩ | ⟨hc, hh⟩
    · rw [if_pos hc, hh]
      simp only [Pc.bytes, if_pos hc, List.append_nil]
      have : off = 0 := by omega
      rw [this]; rfl
    · rw [if_neg hc, hh]
      simp only [Pc.bytes, if_neg hc]
      have : 256 * (off / 256) + off % 256 = off := by omega
      simp [this]
  have hlen : (Pc.bytes ⟨sn, part, poll, off, d⟩).length = headN part + d.length := by
    unfold Pc.bytes headN
    split <;> simp <;> omega
  unfold decP
  rw [if_neg (by simpa using hb), if_neg (by rcases hh2 with ⟨_, hh⟩ | ⟨_, hh⟩ <;> omega), hraw, if_neg (by simp only; omega), if_neg (by
    rw [g0]; simp only [not_or, Decidable.not_not]
    exact ⟨by omega, hb, h0, h1, h2, h3, h4, h5, h6⟩)]
/-- a receiver that waits for the numbers before sn -/
def wR (l : Lk) (sn u left : Int) (due : Bool) : Rc := ⟨l, 0, sn + 1, u, sn + 1, left, 0, due, [donePa sn]⟩
section
variable {l : Lk} {sn u left : Int} {due : Bool}
theorem wR_ok (h : lkOk l) (hs : 1 ≤ sn ∧ sn ≤ 5) (hu : u = 0 ∨ u = sn + 1) (hl : 1 ≤ left ∧ left ≤ l.wait) : (wR l sn u left due).okB = true := by
  have hb : bitsOk l.bits := h.1
  have hq := h.2.2.2.2.1
  have hh : (2 : Int) ^ (l.bits - 1).toNat = 16 ∨ 16 < (2 : Int) ^ (l.bits - 1).toNat := by
    obtain ⟨h1, h2⟩ := hb
    rcases (show l.bits = 5 ∨ l.bits = 6 ∨ l.bits = 7 ∨ l.bits = 8 ∨ l.bits = 9 by omega) with e | e | e | e | e <;> rw [e] <;> decide
  have p0 : ∀ n : Int, 0 ≤ n → n ≤ 6 → way l.bits 0 n = n ∧ snOk l.bits n := fun n h0 h6 => by
    unfold way snOk
    rcases pow_bits hb with e | e | e | e | e <;> rw [e] <;> omega
  obtain ⟨a1, a2⟩ := p0 (sn + 1) (by omega) (by omega)
  obtain ⟨b1, b2⟩ := p0 0 (by omega) (by omega)
  obtain ⟨c1, c2⟩ := p0 sn (by omega) (by omega)
  obtain ⟨d1, d2⟩ := p0 u (by omega) (by omega)
  have hH : headB (wR l sn u left due) = true := by
    unfold headB wR Rc.place
    refine decide_eq_true ⟨h, b2, a2, d2, ?_, ?_, Int.le_refl _, ?_⟩
    · dsimp only; rw [a1]; omega
    · dsimp only; rw [a1, d1]; omega
    · dsimp only; omega
  have hM : markB (wR l sn u left due) = true := by
    unfold markB wR Rc.place
    dsimp only
    rw [if_neg (by omega)]
    refine decide_eq_true ⟨a2, ?_, ?_, hl.1, hl.2⟩
    · rw [a1]; omega
    · omega
  have hP : paFrom (wR l sn u left due) (-1) [donePa sn] = true := by
    have g1 : (wR l sn u left due).place sn = sn := c1
    have g2 : (wR l sn u left due).place (wR l sn u left due).next = sn + 1 := a1
    have g3 : paAt (wR l sn u left due) (-1) (donePa sn) = true := by
      unfold paAt
      rw [show (donePa sn).sn = sn from rfl, g1, g2]
      simp only [Bool.and_eq_true, decide_eq_true_eq, Bool.or_eq_true, Bool.not_eq_true']
      exact ⟨⟨⟨c2, by omega, by omega⟩, .inr (decide_eq_false (by show ¬ sn = 0; omega))⟩, rfl⟩
    show (paAt (wR l sn u left due) (-1) (donePa sn) && decide ((wR l sn u left due).place sn = (wR l sn u left due).place (wR l sn u left due).next - 1)) = true
    rw [g3, g1, g2, Bool.true_and]
    exact decide_eq_true (by omega)
  unfold Rc.okB
  rw [hH, hM]
  show (true && paFrom (wR l sn u left due) (-1) [donePa sn] && true) = true
  rw [hP]; rfl
theorem wR_rec (h : lkOk l) (hs : 1 ≤ sn ∧ sn ≤ 5) : (encP l.bits ⟨sn, 0, 0, 0, [1]⟩).2 = 0 ∧ recS (newRc l).1 (encP l.bits ⟨sn, 0, 0, 0, [1]⟩).1 = (wR l sn 0 l.wait false, [1], 0) := by
  have hb : bitsOk l.bits := h.1
  have hp := pow_bits hb
  have hq : Pc.ok l.bits ⟨sn, 0, 0, 0, [1]⟩ := by
    refine ⟨hb, ⟨by show 0 ≤ sn; omega, by show sn < _; omega⟩, ⟨by show (0 : Int) ≤ 0; omega, by show (0 : Int) ≤ 3; omega⟩, ⟨by show (0 : Int) ≤ 0; omega, by show (0 : Int) ≤ 1; omega⟩, ?_, ⟨by show (0 : Int) ≤ 0; omega, by show (0 : Int) ≤ 2054; omega⟩, ?_, ?_⟩
    · simp
    · simp
    · simp
  have e1 : encP l.bits ⟨sn, 0, 0, 0, [1]⟩ = (Pc.bytes ⟨sn, 0, 0, 0, [1]⟩, 0) := by unfold encP; rw [if_pos hq]
  have p0 : ∀ n : Int, 0 ≤ n → n ≤ 6 → way l.bits 0 n = n := fun n h0 h6 => by
    unfold way
    rcases hp with e | e | e | e | e <;> rw [e] <;> omega
  have hn : newRc l = (⟨l, 0, 0, 0, -1, 0, 0, false, []⟩, 0) := by unfold newRc; rw [if_pos h]
  have hok : (⟨l, 0, 0, 0, -1, 0, 0, false, []⟩ : Rc).okB = true := by
    exact new_ok h (f := 0) (by unfold snOk; rcases hp with e | e | e | e | e <;> rw [e] <;> omega)
  have hh : (16 : Int) ≤ (2 : Int) ^ (l.bits - 1).toNat := by
    obtain ⟨h1, h2⟩ := hb
    rcases (show l.bits = 5 ∨ l.bits = 6 ∨ l.bits = 7 ∨ l.bits = 8 ∨ l.bits = 9 by omega) with e | e | e | e | e <;> rw [e] <;> decide
  rw [e1]
  refine ⟨rfl, ?_⟩
  rw [hn]
  unfold recS
  rw [if_neg (by rw [hok]; decide)]
  dsimp only
  rw [decP_bytesP hq, if_neg (by simp)]
  dsimp only
  have hr : refusedS ⟨l, 0, 0, 0, -1, 0, 0, false, []⟩ ⟨sn, 0, 0, 0, [1]⟩ = 0 := by
    unfold refusedS Rc.place
    dsimp only
    rw [p0 sn (by omega) (by omega), if_neg (by omega)]
    rfl
  have ha : atP ⟨l, 0, 0, 0, -1, 0, 0, false, []⟩ sn = 0 := rfl
  have hi : insS ⟨l, 0, 0, 0, -1, 0, 0, false, []⟩ ⟨sn, 0, 0, 0, [1]⟩ = [newPa sn] := rfl
  have hm : mergedS ⟨l, 0, 0, 0, -1, 0, 0, false, []⟩ ⟨sn, 0, 0, 0, [1]⟩ = ⟨sn, false, 1, [1], [⟨sn, 0, 1⟩]⟩ := rfl
  have hc : compB ⟨sn, false, 1, [1], [⟨sn, 0, 1⟩]⟩ = true := rfl
  have hU : unitS ⟨l, 0, 0, 0, -1, 0, 0, false, []⟩ ⟨sn, 0, 0, 0, [1]⟩ = [1] := by
    unfold unitS; rw [hm, if_pos hc]
  have hput : putP ⟨l, 0, 0, 0, -1, 0, 0, false, []⟩ ⟨sn, 0, 0, 0, [1]⟩ = ⟨l, 0, sn + 1, 0, -1, 0, 0, false, [donePa sn]⟩ := by
    unfold putP
    rw [hm, if_pos hc, hi]
    unfold Rc.place Rc.behind
    dsimp only
    rw [p0 sn (by omega) (by omega), p0 0 (by omega) (by omega), if_pos (by omega)]
    have : (sn + 1) % 2 ^ l.bits.toNat = sn + 1 := by rcases hp with e | e | e | e | e <;> rw [e] <;> omega
    rw [this]; rfl
  have hadv : advS ⟨l, 0, sn + 1, 0, -1, 0, 0, false, [donePa sn]⟩ = ⟨l, 0, sn + 1, 0, -1, 0, 0, false, [donePa sn]⟩ := by
    unfold advS adv1
    have : dropS l.bits 0 [donePa sn] = (0, [donePa sn]) := by
      unfold dropS; rw [if_neg (by rintro ⟨h1, _⟩; exact absurd h1 (by show ¬ sn = 0; omega))]
    dsimp only
    rw [this]
    unfold adv2 Rc.place
    dsimp only
    rw [p0 0 (by omega) (by omega), p0 (sn + 1) (by omega) (by omega), if_neg (by omega)]
  have hst : startR ⟨l, 0, sn + 1, 0, -1, 0, 0, false, [donePa sn]⟩ = wR l sn 0 l.wait false := by
    unfold startR start1
    dsimp only
    rw [if_neg (by rintro ⟨h1, _⟩; exact h1 rfl)]
    unfold start2
    dsimp only
    rw [if_pos ⟨rfl, by omega⟩]; rfl
  rw [hr, hput, hadv, hst, hU, if_neg (by simp)]
  unfold pollR
  rw [if_neg (by show ¬ (0 : Int) = 1; omega)]
theorem wR_tick (h : lkOk l) (hs : 1 ≤ sn ∧ sn ≤ 5) (hu : u = 0 ∨ u = sn + 1) (hl : 1 ≤ left ∧ left ≤ l.wait) : tickRc (wR l sn u left false) = (if left = 1 then wR l sn (sn + 1) l.wait true else wR l sn u (left - 1) false, 0) := by
  have hb : bitsOk l.bits := h.1
  have hp := pow_bits hb
  have p0 : ∀ n : Int, 0 ≤ n → n ≤ 6 → way l.bits 0 n = n := fun n h0 h6 => by
    unfold way
    rcases hp with e | e | e | e | e <;> rw [e] <;> omega
  unfold tickRc
  rw [if_neg (by rw [wR_ok h hs hu hl]; decide)]
  have e0 : ({ tick1 (wR l sn u left false) with left := (wR l sn u left false).left - 1 } : Rc) = wR l sn u (left - 1) false := rfl
  rw [e0, if_neg (by show ¬ left = 0; omega)]
  refine congrArg (·, (0 : Int)) ?_
  unfold tick2
  by_cases c : left = 1
  · rw [if_neg (by show ¬ left - 1 > 0; omega), if_pos c]
    have e1 : (if (wR l sn u (left - 1) false).place (wR l sn u (left - 1) false).mark > (wR l sn u (left - 1) false).place (wR l sn u (left - 1) false).upto then (wR l sn u (left - 1) false).mark else (wR l sn u (left - 1) false).upto) = sn + 1 := by
      unfold wR Rc.place
      dsimp only
      split
      · rfl
      · rcases hu with rfl | rfl
        · rw [p0 (sn + 1) (by omega) (by omega), p0 0 (by omega) (by omega)] at *; omega
        · rfl
    rw [e1]
    unfold wR startR start1
    dsimp only
    rw [if_neg (by rintro ⟨h1, _⟩; exact h1 rfl)]
    unfold start2
    dsimp only
    rw [if_pos ⟨rfl, by omega⟩]
  · rw [if_pos (by show left - 1 > 0; omega), if_neg c]
theorem wR_place (h : lkOk l) (hs : 1 ≤ sn ∧ sn ≤ 5) : (wR l sn u left due).place (sn + 1) = sn + 1 := by
  show way l.bits 0 (sn + 1) = sn + 1
  unfold way
  rcases pow_bits h.1 with e | e | e | e | e <;> rw [e] <;> omega
theorem wR_stat (h : lkOk l) (hs : 1 ≤ sn ∧ sn ≤ 5) (hl : 1 ≤ left ∧ left ≤ l.wait) : (statR (wR l sn (sn + 1) left due)).2 = 0 ∧ ((statR (wR l sn (sn + 1) left due)).1.miss.length : Int) = sn ∧ ∃ r t, (statR (wR l sn (sn + 1) left due)).1.miss = r :: t ∧ r.sn = 0 := by
  have hb : bitsOk l.bits := h.1
  have hp := pow_bits hb
  have p0 : ∀ n : Int, 0 ≤ n → n ≤ 6 → way l.bits 0 n = n := fun n h0 h6 => by
    unfold way
    rcases hp with e | e | e | e | e <;> rw [e] <;> omega
  have q0 : ∀ n : Int, 0 ≤ n → n ≤ 6 → n % 2 ^ l.bits.toNat = n := fun n h0 h6 => by
    rcases hp with e | e | e | e | e <;> rw [e] <;> omega
  unfold statR
  rw [if_neg (by rw [wR_ok h hs (.inr rfl) hl]; decide)]
  have e1 : (wR l sn (sn + 1) left due).place (wR l sn (sn + 1) left due).upto = sn + 1 := p0 (sn + 1) (by omega) (by omega)
  have e2 : (wR l sn (sn + 1) left due).first = 0 := rfl
  rw [e1, e2]
  have hM : ∀ n : Int, n ≠ sn → missP (wR l sn (sn + 1) left due) n = [⟨n, 0, 0⟩] := fun n hn => missP_none fun x hx => by
    obtain rfl : x = donePa sn := by simpa [wR] using hx
    exact fun e => hn e.symm
  have hD : missP (wR l sn (sn + 1) left due) sn = [] := missP_some (k := 0) (by show 0 < 1; omega) rfl fun j hj hj0 => by omega
  have hB : ∀ n : Int, 0 ≤ n → n ≤ 5 → (wR l sn (sn + 1) left due).behind n = n + 1 := fun n h0 h5 => by
    unfold Rc.behind wR; dsimp only; exact q0 _ (by omega) (by omega)
  have hS : ∀ (k : Nat) (n : Int) (O : List Rg), 0 ≤ n → n + k = sn → O.length + k ≤ 20 → (statS (wR l sn (sn + 1) left due) (k + 1) n O).miss.length = O.length + k ∧ ∃ T, (statS (wR l sn (sn + 1) left due) (k + 1) n O).miss = O ++ T ∧ (1 ≤ k → ∃ T', T = ⟨n, 0, 0⟩ :: T') := by
    intro k
    induction k with
    | zero =>
      intro n O h0 hn hO
      obtain rfl : n = sn := by omega
      unfold statS
      rw [hD, if_neg (by simp; omega)]
      unfold statS
      exact ⟨by simp, [], rfl, fun h => absurd h (by omega)⟩
    | succ k ih =>
      intro n O h0 hn hO
      have hl1 : (O ++ [(⟨n, 0, 0⟩ : Rg)]).length = O.length + 1 := by simp
      obtain ⟨f1, T, f2, _⟩ := ih (n + 1) (O ++ [⟨n, 0, 0⟩]) (by omega) (by omega) (by omega)
      have e : statS (wR l sn (sn + 1) left due) (k + 1 + 1) n O = statS (wR l sn (sn + 1) left due) (k + 1) (n + 1) (O ++ [⟨n, 0, 0⟩]) := by
        rw [statS, hM n (by omega), if_neg (by simp; omega), hB n h0 (by omega)]
      rw [e]
      refine ⟨by rw [f1, hl1]; omega, [⟨n, 0, 0⟩] ++ T, by rw [f2, List.append_assoc], fun _ => ⟨T, rfl⟩⟩
  obtain ⟨k, hk⟩ : ∃ k : Nat, sn = k := ⟨sn.toNat, by omega⟩
  have e3 : (sn + 1).toNat = k + 1 := by omega
  rw [e3]
  obtain ⟨f1, T, f2, f3⟩ := hS k 0 [] (Int.le_refl _) (by omega) (by simp; omega)
  obtain ⟨T', rfl⟩ := f3 (by omega)
  refine ⟨rfl, by dsimp only; rw [f1]; simp; omega, ⟨0, 0, 0⟩, T', by dsimp only; rw [f2]; rfl, rfl⟩
end
end Go.Sx
/- Chapter 21, plain: a receiver that gets pieces of units; no program in sight. -/
namespace Go.Sx
/-- what a partial holds is of the unit -/
def Agr (x : Pa) (u : List Int) : Prop := (x.len = -1 ∨ x.len = u.length) ∧ (∀ r ∈ x.come, r.t ≤ u.length) ∧ ∀ k : Nat, covB k x.come = true → x.data.getD k 0 = u.getD k 0
/-- the partials, from a number on, are of the units, and what is done has come -/
structure Rel (b : Int) (U : Nat → List Int) (f : Int) (first : Nat) (L : List Pa) (G : Nat → Bool) : Prop where
  pts : ∀ x ∈ L, snOk b x.sn ∧ x.done = G (first + (way b f x.sn).toNat) ∧ (x.done = false → Agr x (U (first + (way b f x.sn).toNat)))
  all : ∀ j : Nat, G (first + j) = true → ∃ x ∈ L, way b f x.sn = j
theorem way_zero {b f n : Int} (hb : bitsOk b) (hf : snOk b f) (hn : snOk b n) (h : way b f n = 0) : n = f := by
  unfold way snOk at *
  rcases pow_bits hb with e | e | e | e | e <;> rw [e] at hn hf h <;> omega
theorem way_next {b f n : Int} (hb : bitsOk b) (hf : snOk b f) (hn : snOk b n) (h : 1 ≤ way b f n) : way b ((f + 1) % 2 ^ b.toNat) n = way b f n - 1 := by
  unfold way snOk at *
  rcases pow_bits hb with e | e | e | e | e <;> rw [e] at hn hf h ⊢ <;> omega
theorem next_sn {b f : Int} (hb : bitsOk b) : snOk b ((f + 1) % 2 ^ b.toNat) := by
  unfold snOk
  rcases pow_bits hb with e | e | e | e | e <;> rw [e] <;> omega
theorem rel_drop {b : Int} {U : Nat → List Int} {G : Nat → Bool} (hb : bitsOk b) : ∀ (d : Nat) (f : Int) (first : Nat) (L : List Pa), Rel b U f first L G → snOk b f → (L.Pairwise fun x y => way b f x.sn < way b f y.sn) →
    (∀ k, k < d → G (first + k) = true) → G (first + d) = false → (dropS b f L).1 = (f + d) % 2 ^ b.toNat ∧ Rel b U ((f + d) % 2 ^ b.toNat) (first + d) (dropS b f L).2 G
  | 0, f, first, L, h, hf, hs, _, hg => by
    have e : dropS b f L = (f, L) := by
      cases L with
      | nil => rfl
      | cons p l =>
        rw [dropS, if_neg]
        rintro ⟨h1, h2⟩
        have h3 := (h.pts p (by simp)).2.1
        have h4 : way b f p.sn = 0 := by rw [h1]; unfold way; rw [Int.sub_self, Int.zero_emod]
        rw [h4] at h3
        rw [h2] at h3
        exact Bool.noConfusion (h3.trans hg)
    have e2 : (f + ((0 : Nat) : Int)) % 2 ^ b.toNat = f := by
      unfold snOk at hf
      rcases pow_bits hb with e | e | e | e | e <;> rw [e] at hf ⊢ <;> omega
    rw [e, e2]
    exact ⟨rfl, h⟩
  | d + 1, f, first, L, h, hf, hs, hk, hg => by
    have h0 := hk 0 (by omega)
    obtain ⟨x, hx, hw⟩ := h.all 0 h0
    cases L with
    | nil => simp at hx
    | cons p l =>
      rw [List.pairwise_cons] at hs
      obtain ⟨hp1, hp2, hp3⟩ := h.pts p (by simp)
      have hwp : way b f p.sn = 0 := by
        rcases List.mem_cons.1 hx with rfl | hx
        · exact hw
        · have := hs.1 x hx
          have := (way_range b f p.sn).1
          omega
      have hpf := way_zero hb hf hp1 hwp
      have hpd : p.done = true := by rw [hp2, hwp]; exact h0
      have hl : ∀ y ∈ l, way b ((f + 1) % 2 ^ b.toNat) y.sn = way b f y.sn - 1 ∧ 1 ≤ way b f y.sn := fun y hy => by
        have h1 := hs.1 y hy
        exact ⟨way_next hb hf (h.pts y (by simp [hy])).1 (by omega), by omega⟩
      have hR : Rel b U ((f + 1) % 2 ^ b.toNat) (first + 1) l G := by
        refine ⟨fun y hy => ?_, fun j hj => ?_⟩
        · obtain ⟨q1, q2, q3⟩ := h.pts y (by simp [hy])
          obtain ⟨e1, e2⟩ := hl y hy
          have e3 : first + 1 + (way b ((f + 1) % 2 ^ b.toNat) y.sn).toNat = first + (way b f y.sn).toNat := by omega
          rw [e3]
          exact ⟨q1, q2, q3⟩
        · obtain ⟨y, hy, e⟩ := h.all (j + 1) (by rw [← hj]; congr 1; omega)
          rcases List.mem_cons.1 hy with rfl | hy
          · omega
          · exact ⟨y, hy, by rw [(hl y hy).1]; omega⟩
      obtain ⟨r1, r2⟩ := rel_drop hb d _ _ l hR (next_sn hb) (hs.2.imp_of_mem fun {x y} hx hy hxy => by rw [(hl x hx).1, (hl y hy).1]; omega) (fun k hkd => by
        have := hk (k + 1) (by omega)
        rw [← this]; congr 1; omega) (by rw [← hg]; congr 1; omega)
      have e4 : dropS b f (p :: l) = dropS b ((f + 1) % 2 ^ b.toNat) l := by rw [dropS, if_pos ⟨hpf, hpd⟩]
      have e5 : ((f + 1) % 2 ^ b.toNat + (d : Int)) % 2 ^ b.toNat = (f + ((d + 1 : Nat) : Int)) % 2 ^ b.toNat := by
        rcases pow_bits hb with e | e | e | e | e <;> rw [e] <;> omega
      rw [e4, r1, e5]
      rw [e5, show first + 1 + d = first + (d + 1) by omega] at r2
      exact ⟨rfl, r2⟩
/-- a piece of a unit -/
structure Piece (q : Pc) (u : List Int) : Prop where
  pos : 0 ≤ q.off
  one : 1 ≤ q.data.length
  fit : q.en ≤ u.length
  byt : ∀ k : Nat, q.off ≤ k → (k : Int) < q.en → q.data.getD (k - q.off.toNat) 0 = u.getD k 0
  fin : ends q.part = true ↔ q.en = u.length
theorem agr_new (n : Int) (u : List Int) : Agr (newPa n) u := ⟨.inl rfl, fun r hr => by simp [newPa] at hr, fun k h => by simp [newPa, covB] at h⟩
theorem agr_contra {x : Pa} {q : Pc} {u : List Int} (ho : Open x) (ha : Agr x u) (hq : Piece q u) : contraB x q = false := by
  obtain ⟨h1, h2, h3⟩ := ha
  obtain ⟨-, -, ho3, -, -, -⟩ := ho
  have he : endT x.come ≤ u.length := by
    by_cases c : x.come = []
    · rw [c]; show (0 : Int) ≤ _; omega
    · obtain ⟨r, hr, e⟩ := (norm_end (q := 0) ho3).2 c
      have := h2 r hr
      unfold endT; omega
  have hf := hq.fit
  unfold contraB
  by_cases c : ends q.part = true
  · rw [if_pos c, decide_eq_false_iff_not]
    have := hq.fin.1 c
    omega
  · rw [if_neg c, decide_eq_false_iff_not]
    have : q.en ≠ u.length := fun h => c (hq.fin.2 h)
    omega
theorem agr_merge {x : Pa} {q : Pc} {u : List Int} (ho : Open x) (ha : Agr x u) (hq : Piece q u) : Agr (mergeS x q) u ∧ (compB (mergeS x q) = true → (mergeS x q).data = u) := by
  obtain ⟨h1, h2, h3⟩ := ha
  obtain ⟨ho1, ho2, ho3, ho4, ho5, ho6⟩ := ho
  have hf := hq.fit
  have hp := hq.pos
  have hone := hq.one
  have hen : q.en = q.off + q.data.length := rfl
  have hlt : q.off < q.en := by omega
  have hcov : ∀ k : Int, covB k (mergeS x q).come = (decide (q.off ≤ k ∧ k < q.en) || covB k x.come) := fun k => union_cov q.sn k x.come q.off q.en hlt fun r hr => (norm_lt _ _ ho3 r hr).2
  have hl : (mergeS x q).data.length = max x.data.length (q.off.toNat + q.data.length) := layD_len _ _ _
  have hend : endT (mergeS x q).come = max (endT x.come) q.en := end_union ho3 hp hlt
  have hlen : (mergeS x q).len = if ends q.part = true then q.en else x.len := rfl
  have hA : Agr (mergeS x q) u := by
    refine ⟨?_, union_le q.sn x.come q.off q.en _ h2 hf, fun k hk => ?_⟩
    · rw [hlen]
      by_cases c : ends q.part = true
      · rw [if_pos c]; exact .inr (hq.fin.1 c)
      · rw [if_neg c]; exact h1
    · have hd : (mergeS x q).data.getD k 0 = _ := layD_get x.data q.off.toNat q.data k
      rw [hd]
      by_cases c : q.off.toNat ≤ k ∧ k < q.off.toNat + q.data.length
      · rw [if_pos c]; exact hq.byt k (by omega) (by omega)
      · rw [if_neg c]
        rw [hcov, decide_eq_false (by omega), Bool.false_or] at hk
        exact h3 k hk
  refine ⟨hA, fun hc => ?_⟩
  unfold compB at hc
  cases hcome : (mergeS x q).come with
  | nil => rw [hcome] at hc; cases hc
  | cons r rs =>
    cases rs with
    | cons r2 rs => rw [hcome] at hc; cases hc
    | nil =>
      rw [hcome] at hc
      have hc := of_decide_eq_true hc
      have hL : (mergeS x q).len = u.length := by
        rcases hA.1 with h | h
        · omega
        · exact h
      have hE : endT (mergeS x q).come = u.length := by rw [hcome]; show r.t = _; omega
      have hdl : ((mergeS x q).data.length : Int) = u.length := by omega
      apply List.ext_getElem (by omega)
      intro k k1 k2
      have := hA.2.2 k (by rw [hcome]; simp [covB]; omega)
      rw [getD_at2 k1, getD_at2 k2] at this
      exact this
/-- what has come, with one number more -/
def setG (G : Nat → Bool) (c : Nat) : Nat → Bool := fun k => if k = c then true else G k
theorem rel_put {s : Rc} {U : Nat → List Int} {G : Nat → Bool} {first j : Nat} {q : Pc} (hc : Core s) (hR : Rel s.lk.bits U s.first first s.parts G) (hq : q.ok s.lk.bits) (hj : s.place q.sn = j) (hh : s.place q.sn < 2 ^ (s.lk.bits - 1).toNat) (hP : Piece q (U (first + j))) :
    (refusedS s q = 0 ∨ refusedS s q = 12) ∧ (refusedS s q = 0 → G (first + j) = false ∧ ((unitS s q = [] ∧ Rel s.lk.bits U s.first first (putP s q).parts G) ∨ (unitS s q = U (first + j) ∧ Rel s.lk.bits U s.first first (putP s q).parts (setG G (first + j))))) := by
  have hsn : snOk s.lk.bits q.sn := hq.2.1
  have hb := hc.lk.1
  have hold' : ¬ s.place q.sn ≥ 2 ^ (s.lk.bits - 1).toNat := by omega
  obtain ⟨hA, hsp⟩ := at_split hc hsn
  obtain ⟨A, hAe⟩ : ∃ A, A = s.parts.take (atP s q.sn) := ⟨_, rfl⟩
  have hpl : s.parts = A ++ s.parts.drop (atP s q.sn) := by rw [hAe, List.take_append_drop]
  have hkl : atP s q.sn ≤ s.parts.length := by
    have := congrArg List.length (List.takeWhile_append_dropWhile (p := fun p' : Pa => decide (s.place p'.sn < s.place q.sn)) (l := s.parts))
    rw [List.length_append] at this
    show (s.parts.takeWhile _).length ≤ _
    omega
  have hAl : A.length = atP s q.sn := by rw [hAe, List.length_take]; omega
  obtain ⟨y', hy'⟩ : ∃ y', y' = if compB (mergedS s q) then donePa q.sn else mergedS s q := ⟨_, rfl⟩
  have hput : (putP s q).parts = (insS s q).set (atP s q.sn) y' := by rw [hy']; rfl
  have hAm : ∀ x ∈ A, x ∈ s.parts ∧ s.place x.sn < s.place q.sn := fun x hx => by rw [hAe] at hx; exact ⟨List.mem_of_mem_take hx, hA x hx⟩
  have hway : ∀ n, way s.lk.bits s.first n = s.place n := fun n => rfl

  have fin : ∀ (x : Pa) (B : List Pa), Open x → x.sn = q.sn → Agr x (U (first + j)) → mergedS s q = mergeS x q → (putP s q).parts = A ++ y' :: B → (∀ z ∈ B, z ∈ s.parts ∧ s.place q.sn < s.place z.sn) →
      (∀ z ∈ s.parts, z ∈ A ∨ z ∈ B ∨ z.sn = q.sn) → G (first + j) = false →
      ((unitS s q = [] ∧ Rel s.lk.bits U s.first first (putP s q).parts G) ∨ (unitS s q = U (first + j) ∧ Rel s.lk.bits U s.first first (putP s q).parts (setG G (first + j)))) := fun x B ho hxs hx hm hp hB hsplit hG => by
    obtain ⟨m1, m2⟩ := agr_merge ho hx hP
    have hyo : (mergeS x q).done = false := ho.1
    have hys : (mergeS x q).sn = q.sn := hxs
    cases hcm : compB (mergedS s q) with
    | false =>
      left
      refine ⟨by unfold unitS; rw [hcm]; rfl, ?_⟩
      rw [hcm] at hy'
      have hy2 : y' = mergeS x q := by rw [hy', hm]; rfl
      rw [hp]
      refine ⟨fun z hz => ?_, fun i hi => ?_⟩
      · rcases List.mem_append.1 hz with hz | hz
        · exact hR.pts z (hAm z hz).1
        · rcases List.mem_cons.1 hz with rfl | hz
          · rw [hy2, hys, hyo, hway, hj, Int.toNat_natCast]
            exact ⟨hsn, hG.symm, fun _ => m1⟩
          · exact hR.pts z (hB z hz).1
      · obtain ⟨z, hz, e⟩ := hR.all i hi
        rcases hsplit z hz with h | h | h
        · exact ⟨z, by simp [h], e⟩
        · exact ⟨z, by simp [h], e⟩
        · exact ⟨y', by simp, by rw [hy2, hys, ← h]; exact e⟩
    | true =>
      right
      rw [hcm] at hy'
      have hy2 : y' = donePa q.sn := hy'
      refine ⟨by unfold unitS; rw [hcm, if_pos rfl, hm]; exact m2 (by rw [← hm]; exact hcm), ?_⟩
      rw [hp]
      have hne : ∀ z, s.place z ≠ s.place q.sn → setG G (first + j) (first + (way s.lk.bits s.first z).toNat) = G (first + (way s.lk.bits s.first z).toNat) := fun z hz => by
        unfold setG
        have := place_ge s z
        rw [if_neg]
        rw [hway]; omega
      refine ⟨fun z hz => ?_, fun i hi => ?_⟩
      · rcases List.mem_append.1 hz with hz | hz
        · rw [hne z.sn (by have := (hAm z hz).2; omega)]
          exact hR.pts z (hAm z hz).1
        · rcases List.mem_cons.1 hz with rfl | hz
          · rw [hy2]
            refine ⟨hsn, ?_, fun h => by cases h⟩
            show true = _
            show true = setG G (first + j) (first + (s.place q.sn).toNat)
            rw [hj, Int.toNat_natCast]
            unfold setG; rw [if_pos rfl]
          · rw [hne z.sn (by have := (hB z hz).2; omega)]
            exact hR.pts z (hB z hz).1
      · by_cases hij : i = j
        · exact ⟨y', by simp, by rw [hy2, hij]; exact hj⟩
        · have hi2 : G (first + i) = true := by
            unfold setG at hi
            rw [if_neg (by omega)] at hi
            exact hi
          obtain ⟨z, hz, e⟩ := hR.all i hi2
          rcases hsplit z hz with h | h | h
          · exact ⟨z, by simp [h], e⟩
          · exact ⟨z, by simp [h], e⟩
          · rw [h, hway, hj] at e
            omega
  rcases hsp with ⟨hf, hB⟩ | ⟨y, B, hf, hd, hg, hysn, hB⟩
  · have hi : insS s q = A ++ newPa q.sn :: s.parts.drop (atP s q.sn) := by rw [insS, if_neg (by rw [hf]; decide), hAe]
    have hno : ∀ z ∈ s.parts, s.place z.sn ≠ s.place q.sn := fun z hz => by
      rw [hpl] at hz
      rcases List.mem_append.1 hz with hz | hz
      · have := (hAm z hz).2; omega
      · have := hB z hz; omega
    have hr0 : refusedS s q = 0 := by
      unfold refusedS
      rw [if_neg hold']
      unfold foundB at hf
      split
      · rename_i x hx
        rw [hx] at hf
        rw [if_neg (of_decide_eq_false hf)]
      · rfl
    refine ⟨.inl hr0, fun _ => ?_⟩
    have hG : G (first + j) = false := by
      cases hGj : G (first + j) with
      | false => rfl
      | true =>
        obtain ⟨z, hz, e⟩ := hR.all j hGj
        exact absurd (by rw [hj]; exact e) (hno z hz)
    refine ⟨hG, fin (newPa q.sn) (s.parts.drop (atP s q.sn)) (open_new _) rfl (agr_new _ _) ?_ ?_ (fun z hz => ⟨List.mem_of_mem_drop hz, hB z hz⟩) (fun z hz => ?_) hG⟩
    · unfold mergedS; rw [hi, List.getElem?_append_right (by omega), hAl, Nat.sub_self]; rfl
    · rw [hput, hi, List.set_append_right _ _ (by omega), hAl, Nat.sub_self]; rfl
    · rw [hpl] at hz
      rcases List.mem_append.1 hz with hz | hz
      · exact .inl hz
      · exact .inr (.inl hz)
  · have hi : insS s q = A ++ y :: B := by rw [insS, if_pos hf, hpl, hd]
    have hym : y ∈ s.parts := List.mem_of_getElem? hg
    obtain ⟨q1, q2, q3⟩ := hR.pts y hym
    rw [hway, hysn, hj, Int.toNat_natCast] at q2 q3
    have hr : refusedS s q = if y.done = true then 12 else if contraB y q then 4 else if hasB y q then 12 else 0 := by
      unfold refusedS
      rw [if_neg hold', hg]
      dsimp only
      rw [if_pos hysn]
    cases hyd : y.done with
    | true =>
      rw [hyd, if_pos rfl] at hr
      rw [hr]
      exact ⟨.inr rfl, fun h => by cases h⟩
    | false =>
      have ho := open_of hyd (hc.all y hym).1
      have ha := q3 hyd
      rw [hyd, if_neg (by decide), agr_contra ho ha hP, if_neg (by decide)] at hr
      have hG : G (first + j) = false := by rw [← q2]; exact hyd
      refine ⟨by rw [hr]; split <;> simp, fun _ => ⟨hG, fin y B ho hysn ha ?_ ?_ (fun z hz => ⟨List.mem_of_mem_drop (i := atP s q.sn) (by rw [hd]; simp [hz]), hB z hz⟩) (fun z hz => ?_) hG⟩⟩
      · unfold mergedS; rw [hi, List.getElem?_append_right (by omega), hAl, Nat.sub_self]; rfl
      · rw [hput, hi, List.set_append_right _ _ (by omega), hAl, Nat.sub_self]; rfl
      · rw [hpl, hd] at hz
        rcases List.mem_append.1 hz with hz | hz
        · exact .inl hz
        · rcases List.mem_cons.1 hz with rfl | hz
          · exact .inr (.inr hysn)
          · exact .inr (.inl hz)
theorem rel_new (b : Int) (U : Nat → List Int) : Rel b U 0 0 [] fun _ => false := ⟨fun x hx => by simp at hx, fun j h => by cases h⟩
theorem rel_step {s : Rc} {U : Nat → List Int} {G : Nat → Bool} {first j : Nat} {q : Pc} (hok : s.okB = true) (hR : Rel s.lk.bits U s.first first s.parts G) (hG0 : G first = false) (hq : q.ok s.lk.bits) (hj : s.place q.sn = j) (hh : s.place q.sn < 2 ^ (s.lk.bits - 1).toNat)
    (hP : Piece q (U (first + j))) (hpo : q.poll = 0) :
    ((recS s q.bytes).2.2 = 0 ∨ (recS s q.bytes).2.2 = 12) ∧ ((recS s q.bytes).2.2 ≠ 0 → (recS s q.bytes).2.1 = []) ∧ (recS s q.bytes).1.lk = s.lk ∧ ((recS s q.bytes).2.1 ≠ [] → G (first + j) = false ∧ (recS s q.bytes).2.1 = U (first + j)) ∧
    ∀ G' : Nat → Bool, G' = (if (recS s q.bytes).2.1 ≠ [] then setG G (first + j) else G) → ∀ d : Nat, (∀ k, k < d → G' (first + k) = true) → G' (first + d) = false →
      (recS s q.bytes).1.first = (s.first + d) % 2 ^ s.lk.bits.toNat ∧ Rel s.lk.bits U (recS s q.bytes).1.first (first + d) (recS s q.bytes).1.parts G' := by
  obtain ⟨hc, hu, hf, hm⟩ := ok_iff.1 hok
  have hb := hc.lk.1
  obtain ⟨h1, h2⟩ := rel_put hc hR hq hj hh hP
  have hne : U (first + j) ≠ [] := by
    have a1 := hP.one
    have a2 := hP.fit
    have a3 : q.en = q.off + q.data.length := rfl
    have a4 := hP.pos
    intro e
    rw [e] at a2
    simp only [List.length_nil] at a2
    omega
  have hpoll : ∀ t : Rc, pollR t q = t := fun t => by unfold pollR; rw [if_neg (by omega)]
  have hrec : recS s q.bytes = if refusedS s q ≠ 0 then (s, [], refusedS s q) else (startR (advS (putP s q)), unitS s q, 0) := by
    unfold recS
    rw [if_neg (by rw [hok]; decide)]
    dsimp only
    rw [decP_bytesP hq, if_neg (by simp)]
    dsimp only
    rw [hpoll, hpoll]
  by_cases c : refusedS s q = 0
  · rw [if_neg (by omega)] at hrec
    rw [hrec]
    obtain ⟨hG, hu⟩ := h2 c
    obtain ⟨e1, e2, e3, -⟩ := startR_same (advS (putP s q))
    have hcp := put_core hc hq c
    have hfst : (advS (putP s q)).first = (dropS s.lk.bits s.first (putP s q).parts).1 := by
      unfold advS adv2; split <;> rfl
    have hprt : (advS (putP s q)).parts = (dropS s.lk.bits s.first (putP s q).parts).2 := advS_parts _
    refine ⟨.inl rfl, fun h => absurd rfl h, ?_, fun h => ?_, fun G' hG' d hd1 hd2 => ?_⟩
    · show (startR _).lk = _
      rw [e2]; unfold advS adv2; split <;> rfl
    · rcases hu with ⟨hu, _⟩ | ⟨hu, _⟩
      · exact absurd hu h
      · exact ⟨hG, hu⟩
    · have hR' : Rel s.lk.bits U s.first first (putP s q).parts G' := by
        rcases hu with ⟨hu, hr⟩ | ⟨hu, hr⟩
        · rw [hG', if_neg (fun h => h hu)]; exact hr
        · rw [hG', if_pos (by show unitS s q ≠ []; rw [hu]; exact hne)]; exact hr
      obtain ⟨r1, r2⟩ := rel_drop hb d s.first first (putP s q).parts hR' hc.f hcp.asc hd1 hd2
      show (startR _).first = _ ∧ Rel _ _ (startR _).first _ (startR _).parts _
      rw [e1, e3, hfst, hprt, r1]
      exact ⟨rfl, r2⟩
  · rw [if_pos c] at hrec
    rw [hrec]
    refine ⟨h1, fun _ => rfl, rfl, fun h => absurd rfl h, fun G' hG' d hd1 hd2 => ?_⟩
    rw [if_neg (fun h => h rfl)] at hG'
    subst hG'
    have hd0 : d = 0 := by
      rcases Nat.eq_zero_or_pos d with h | h
      · exact h
      · have := hd1 0 h
        exact Bool.noConfusion (hG0.symm.trans this)
    subst hd0
    have hff := hc.f
    refine ⟨?_, hR⟩
    show s.first = (s.first + 0) % _
    unfold snOk at hff
    rcases pow_bits hb with e | e | e | e | e <;> rw [e] at hff ⊢ <;> omega
theorem rel_miss {s : Rc} {U : Nat → List Int} {G : Nat → Bool} {first : Nat} (hc : Core s) (hR : Rel s.lk.bits U s.first first s.parts G) {n : Int} (hn : snOk s.lk.bits n) : ∀ r ∈ missP s n, G (first + (s.place r.sn).toNat) = false := by
  intro r hr
  have h1 := (miss_chP hc hn).2 r hr
  rw [h1]
  cases hG : G (first + (s.place n).toNat) with
  | false => rfl
  | true =>
    obtain ⟨x, hx, e⟩ := hR.all _ hG
    have hp := place_ge s n
    have hxn : x.sn = n := place_inj hc.lk.1 (hR.pts x hx).1 hn (by
      have e : s.place x.sn = ((s.place n).toNat : Int) := e
      omega)
    unfold missP at hr
    rcases idx_or (fun p : Pa => decide (p.sn = n)) s.parts with ⟨_, h⟩ | ⟨k, hk, e, h2⟩
    · exact absurd hxn (of_decide_eq_false (h x hx))
    · rw [e, if_neg (by omega), Int.toNat_natCast, List.getElem?_eq_getElem hk] at hr
      have h3 := (hR.pts _ (List.getElem_mem hk)).2.1
      rw [of_decide_eq_true h2] at h3
      have h3 : s.parts[k].done = true := h3.trans hG
      unfold missO at hr
      dsimp only at hr
      rw [if_pos h3] at hr
      simp at hr
theorem rel_stat {s : Rc} {U : Nat → List Int} {G : Nat → Bool} {first : Nat} (hc : Core s) (hR : Rel s.lk.bits U s.first first s.parts G) : ∀ (k : Nat) (n : Int) (O : List Rg), snOk s.lk.bits n → (∀ r ∈ O, G (first + (s.place r.sn).toNat) = false) → ∀ r ∈ (statS s k n O).miss, G (first + (s.place r.sn).toNat) = false
  | 0, _, _, _, hO => hO
  | k + 1, n, O, hn, hO => by
    unfold statS
    split
    · exact hO
    · refine rel_stat hc hR k _ _ (behind_ok hc.lk.1 n) fun r hr => ?_
      rcases List.mem_append.1 hr with hr | hr
      · exact hO r hr
      · exact rel_miss hc hR hn r hr
theorem rel_rep {s : Rc} {U : Nat → List Int} {G : Nat → Bool} {first : Nat} (hok : s.okB = true) (hR : Rel s.lk.bits U s.first first s.parts G) : (statR s).2 = 0 ∧ ∀ r ∈ (statR s).1.miss, G (first + (s.place r.sn).toNat) = false := by
  obtain ⟨hc, -, -, -⟩ := ok_iff.1 hok
  unfold statR
  rw [if_neg (by rw [hok]; decide)]
  exact ⟨rfl, rel_stat hc hR _ _ _ hc.f fun r hr => by simp at hr⟩
end Go.Sx
/- The dice of the laws: what a throw gives. -/
namespace Go.Proofs.Ythceaojjeokclaa
open Go.Sx Go.RowKit

theorem made_Light_ct {t_a : Option Addr} {t_l : Nat} {t_c : Nat} {w : World} :
    Calls Try.prog N_made_Light #[(.slice t_a t_l t_c)] w fun e w' => e = .returned (.bool (decide ((t_l : Int) ≤ (400 : Int)))) ∧ Below w.heap.size w w' := by
  apply F_made_Light_ok
  unfold F_made_Light
  exact ⟨rfl, .refl _ _⟩
def modI (n m : Int) : Int := if m < 1 then 0 else n % m
theorem modI_range (n m : Int) (h : 1 ≤ m) : 0 ≤ modI n m ∧ modI n m < m := by
  unfold modI
  rw [if_neg (by omega)]
  exact ⟨Int.emod_nonneg _ (by omega), Int.emod_lt_of_pos _ (by omega)⟩
theorem made_Mod_ct (n m : Int) (hm : m ≤ 9223372036854775807) {w : World} : Calls Try.prog N_made_Mod #[.int .i64 n, .int .i64 m] w fun e w' => e = .returned (.int .i64 (modI n m)) ∧ Below w.heap.size w w' := by
  apply F_made_Mod_ok
  unfold F_made_Mod
  refine bsplit_dec (fun h => ?_) (fun h => ⟨by omega, ?_⟩)
  · exact ⟨by rw [modI, if_pos h], .refl _ _⟩
  have e1 : modI n m = n % m := by rw [modI, if_neg h]
  have h1 := Int.emod_nonneg n (show m ≠ 0 by omega)
  have h2 := Int.emod_lt_of_pos n (show 0 < m by omega)
  have e2 := @Int.tmod_eq_emod n m
  have e3 : (m.natAbs : Int) = m := by omega
  refine kLet_in ?_
  refine bsplit_dec (fun h => ?_) (fun h => ?_)
  · split at e2
    · omega
    refine kW_i64 (by omega) ?_
    exact ⟨by rw [e1, show n.tmod m + m = n % m by omega], .refl _ _⟩
  · have : n.tmod m = n % m := by
      split at e2 <;> omega
    exact ⟨by rw [this, e1], .refl _ _⟩

abbrev dice (g : Nat) (a : Option Addr) (c : Nat) (ts : List Int) (p : Nat) : Res := .blk g Ty_radiolinkmade_Dice [.slice a ts.length c, .int .i64 (p : Int)]
/-- the numbers of the dice are read -/
def Rolls (a : Option Addr) (ts : List Int) (P : World → Prop) : Prop := (∀ w, P w → SlR (IntC .i64) 1 w a ts) ∧ ts.length ≤ 1000000
theorem Rolls.and {a : Option Addr} {ts : List Int} {P : World → Prop} (h : Rolls a ts P) (Q : World → Prop) : Rolls a ts fun w => Q w ∧ P w := ⟨fun w k => h.1 w k.2, h.2⟩
theorem made_Roll_ct {a : Option Addr} {c : Nat} {ts : List Int} {w : World} :
    Calls Try.prog N_made_Roll #[(.slice a ts.length c)] w fun e w' => ∃ g, e = .returned (.pointer (some ⟨g, 0, none⟩)) ∧ FreshR w w' [dice g a c ts 0] := by
  apply F_made_Roll_ok
  unfold F_made_Roll
  have H := St.nil w
  refine H.alloc ?_; clear H; intro b w1 H1
  exact ⟨b, rfl, H1⟩
section
variable {g : Nat} {a : Option Addr} {c : Nat} {ts : List Int} {p : Nat} {w : World} {A : Nat → Prop} {P : World → Prop}
theorem made_Next_ct (hP : Held A w P) (hts : Rolls a ts P) (hB : (dice g a c ts p).ok w) (hn : ∀ b, (dice g a c ts p).at = some b → ¬ A b) (hp : p ≤ ts.length) {n : Int} (hn2 : n ≤ 9223372036854775807) :
    Calls Try.prog N_made_Dice_Next #[(.pointer (some ⟨g, 0, none⟩)), (.int .i64 n)] w fun e w' => ∃ v p', e = .returned (.int .i64 v) ∧ (1 ≤ n → 0 ≤ v ∧ v < n) ∧ p' ≤ ts.length ∧ St A [g] w w' [dice g a c ts p'] P := by
  apply F_made_Dice_Next_ok
  unfold F_made_Dice_Next
  have hlen := hts.2
  have H : St A [g] w w [dice g a c ts p] P := St.startM hP hB hn
  refine H.drew ?_; clear H; intro w1 H1
  refine H1.ld (i := 0) rfl rfl ?_
  refine H1.ldS (i := 0) rfl rfl ?_
  refine bsplit_dec (fun c => ?_) (fun c => ?_)
  · exact ⟨0, p, rfl, fun h => by omega, hp, H1⟩
  · refine H1.ld (i := 0) rfl rfl ?_
    refine kW_i64 (by omega) ?_
    refine H1.set (i := 0) rfl (by simp) ?_; clear H1; intro w2 H2
    refine H2.drew ?_; clear H2; intro w3 H3
    have hs := hts.1 _ H3.get
    obtain ⟨q, rfl, hq⟩ := hs.get (i := p) (by omega)
    refine ⟨(· < w3.heap.size), ?_⟩
    refine H3.ldS (i := 0) rfl rfl ?_
    refine H3.ld (i := 0) rfl rfl ?_
    refine kW_i64 (by omega) ?_
    have e1 : ((p : Int) + 1 - 1).toNat = p := by omega
    refine ⟨q, rfl, ⟨by omega, by omega⟩, ?_⟩
    rw [e1]
    refine ⟨ts[p], hq, ?_⟩
    refine (made_Mod_ct _ _ hn2).mono ?_
    rintro _ w4 ⟨rfl, hb4⟩; have H4 := H3.pass hb4
    refine ⟨_, rfl, ?_⟩
    refine ⟨hb4.keeps, ?_⟩
    exact ⟨_, p + 1, rfl, fun h => modI_range _ _ h, by omega, H4⟩
end
section
variable {A0 : Nat → Prop} {M : List Nat} {w0 w : World} {R : List Res} {P : World → Prop} {i g : Nat} {a : Option Addr} {c : Nat} {ts : List Int} {p : Nat}
/-- a throw, for a caller that has the dice -/
theorem dNext (H : St A0 M w0 w R P) (hi : R[i]? = some (dice g a c ts p)) (hts : Rolls a ts P) (hp : p ≤ ts.length) {n : Int} (hn : n ≤ 9223372036854775807) {K : Int → World → Prop}
    (h : ∀ v p' w', Fr [g] w w' → (1 ≤ n → 0 ≤ v ∧ v < n) → p' ≤ ts.length → St A0 M w0 w' (R.set i (dice g a c ts p')) P → K v w') :
    Calls Try.prog N_made_Dice_Next #[(.pointer (some ⟨g, 0, none⟩)), (.int .i64 n)] w fun e w' => ∃ r : Int, e = .returned (.int .i64 r) ∧ K r w' := by
  obtain ⟨A, hA, hn', hr, hc⟩ := H.callM hi
  refine (made_Next_ct hA hts hr hn' hp hn).mono ?_
  rintro _ w2 ⟨v, p', rfl, hv, hp', S⟩
  have := hc S
  rw [List.append_nil] at this
  exact ⟨v, rfl, h v p' w2 S.fr hv hp' (this.imp fun _ h => h.2)⟩
theorem made_One_ct (H : St A0 M w0 w R P) (hi : R[i]? = some (dice g a c ts p)) (hts : Rolls a ts P) (hp : p ≤ ts.length) {n : Int} (hn : -9223372036854775807 ≤ n ∧ n ≤ 9223372036854775807) {K : Bool → World → Prop}
    (h : ∀ v p' w', Fr [g] w w' → p' ≤ ts.length → St A0 M w0 w' (R.set i (dice g a c ts p')) P → K v w') :
    Calls Try.prog N_made_Dice_One #[(.pointer (some ⟨g, 0, none⟩)), (.int .i64 n)] w fun e w' => ∃ r : Bool, e = .returned (.bool r) ∧ K r w' := by
  apply F_made_Dice_One_ok
  unfold F_made_Dice_One
  refine dNext H hi hts hp hn.2 fun v p' w' hf _ hp' H' => ?_
  refine kW_i64 (by omega) ?_
  refine kLet_in ?_
  exact ⟨_, rfl, h _ p' w' hf hp' H'⟩
theorem dBits (H : St A0 M w0 w R P) (hi : R[i]? = some (dice g a c ts p)) (hts : Rolls a ts P) (hp : p ≤ ts.length) {K : Int → World → Prop}
    (h : ∀ v p' w', 5 ≤ v ∧ v ≤ 9 → p' ≤ ts.length → St A0 M w0 w' (R.set i (dice g a c ts p')) P → K v w') :
    Calls Try.prog N_made_Dice_Bits #[(.pointer (some ⟨g, 0, none⟩))] w fun e w' => ∃ r : Int, e = .returned (.int .i64 r) ∧ K r w' := by
  apply F_made_Dice_Bits_ok
  unfold F_made_Dice_Bits
  refine H.alloc ?_; intro b w1 H1
  have hlt : i < R.length := by
    rcases Nat.lt_or_ge i R.length with h | h
    · exact h
    · rw [List.getElem?_eq_none h] at hi; cases hi
  refine dNext H1 (i := i) (by rw [List.getElem?_append_left hlt]; exact hi) hts hp (by omega) fun v p' w2 hf hv hp' H2 => ?_
  rw [List.set_append_left _ _ hlt] at H2
  have hv := hv (by omega)
  obtain ⟨k, rfl⟩ := natOf hv.1
  have hj : (R.set i (dice g a c ts p') ++ [Res.blk b Ty_int [.int .i64 5, .int .i64 5, .int .i64 6, .int .i64 9]])[R.length]? = some (.blk b Ty_int [.int .i64 5, .int .i64 5, .int .i64 6, .int .i64 9]) := by
    rw [List.getElem?_append_right (by simp)]; simp
  have hv2 : ∃ x : Int, ([Value.int .i64 5, .int .i64 5, .int .i64 6, .int .i64 9] : List Value)[k]? = some (.int .i64 x) ∧ 5 ≤ x ∧ x ≤ 9 := by
    rcases (show k = 0 ∨ k = 1 ∨ k = 2 ∨ k = 3 by omega) with rfl | rfl | rfl | rfl
    · exact ⟨5, rfl, by omega⟩
    · exact ⟨5, rfl, by omega⟩
    · exact ⟨6, rfl, by omega⟩
    · exact ⟨9, rfl, by omega⟩
  obtain ⟨x, hx, hr⟩ := hv2
  refine ⟨⟨b, 0, none⟩, rfl, ⟨by omega, by omega⟩, ?_⟩
  rw [Int.toNat_natCast, Nat.mul_one]
  show kLd _ (Addr.add ⟨b, 0, none⟩ k) _ _
  rw [add_mk, Nat.zero_add]
  refine H2.ld hj hx ?_
  exact ⟨x, rfl, h x p' w2 hr hp' H2.dropLast⟩
end

section
variable {g : Nat} {a : Option Addr} {c : Nat} {ts : List Int} {p : Nat} {w : World} {A : Nat → Prop} {P : World → Prop}
end
end Go.Proofs.Ythceaojjeokclaa
/- CHAPTER 21: throws of links; filled bytes. -/
namespace Go.Proofs.Ythceaojjeokclaa
open Go.Sx Go.RowKit
set_option maxRecDepth 100000
theorem low_pow {b x : Int} (hb : bitsOk b) : (if 1 ≤ b ∧ b ≤ 32 then x % 2 ^ b.toNat else -1) = x % 2 ^ b.toNat := by
  obtain ⟨h1, h2⟩ := hb
  rw [if_pos (by omega)]
def fillB (seed : Int) (n : Nat) : List Int := (List.range n).map fun i : Nat => (seed + 7 * (i : Int) + (i : Int) / 16) % 256
theorem fillB_len (seed : Int) (n : Nat) : (fillB seed n).length = n := by simp [fillB]
theorem fillB_succ (seed : Int) (n : Nat) : fillB seed (n + 1) = fillB seed n ++ [(seed + 7 * (n : Int) + (n : Int) / 16) % 256] := by simp [fillB, List.range_succ]
theorem fillB_bytes (seed : Int) (n : Nat) : Bytes (fillB seed n) := fun i hi => by simp [fillB]; omega
theorem made_Filled_ct {n : Nat} {seed : Int} {w : World} (hn : n ≤ 100000) (hs : 0 ≤ seed ∧ seed ≤ 1000) :
    Calls Try.prog N_made_Filled #[(.int .i64 n), (.int .i64 seed)] w fun e w' => ∃ a c, e = .returned (.slice a n c) ∧ FreshR w w' [.ints Ty_uint8 .u8 a c (fillB seed n)] := by
  apply F_made_Filled_ok
  unfold F_made_Filled
  have H := (St.nil w).nilI Ty_uint8 .u8
  refine ⟨fun b_a b_l b_c i => ((n - i).toNat, fun w1 => ∃ k : Nat, i = k ∧ k ≤ n ∧ b_l = (fillB seed k).length ∧ FreshR w w1 [.ints Ty_uint8 .u8 b_a b_c (fillB seed k)]), ⟨0, rfl, by omega, rfl, H⟩, ?_⟩
  clear H
  rintro _ b_a b_l b_c i w1 ⟨k, rfl, hk, rfl, H1⟩
  refine bsplit_dec (fun c => ?_) (fun c => ?_)
  · refine kW_i64 (by omega) ?_
    refine kW_i64 (by omega) ?_
    have e16 : Int.tdiv (k : Int) 16 = (k : Int) / 16 := Int.tdiv_eq_ediv_of_nonneg (by omega)
    rw [e16]
    refine kW_i64 (by omega) ?_
    refine kW_i64 (by omega) ?_
    refine kWu8 ?_
    refine H1.alloc ?_; clear H1; intro b w2 H2
    have hl := fillB_len seed k
    refine H2.appIB (i := 0) (j := 1) rfl [(seed + 7 * (k : Int) + (k : Int) / 16) % 256] rfl sl_Ty_S_uint8 rfl (by rw [hl]; simp; omega) (by rw [hl]; simp; omega) ?_
    intro x_a x_c w3 H3
    rw [← fillB_succ] at H3 ⊢
    refine kW_i64 (by omega) ?_
    refine ⟨⟨k + 1, by omega, by omega, rfl, H3.sub (R' := [_]) id (fun i r hi => by
      rcases i with _ | i
      · exact hi
      · simp at hi) (fun i j _ _ h => h)⟩, by first | omega | (dsimp only; omega)⟩
  · obtain rfl : k = n := by omega
    rw [fillB_len]
    exact ⟨_, _, rfl, H1⟩
section
variable {g : Nat} {a : Option Addr} {c : Nat} {ts : List Int} {p : Nat} {w : World} {A : Nat → Prop} {P : World → Prop}
theorem made_Link_ct (hP : Held A w P) (hts : Rolls a ts P) (hB : (dice g a c ts p).ok w) (hn : ∀ b, (dice g a c ts p).at = some b → ¬ A b) (hp : p ≤ ts.length) :
    Calls Try.prog N_made_Dice_Link #[(.pointer (some ⟨g, 0, none⟩))] w fun e w' => ∃ (l : Lk) (p' : Nat), e = .returned (.agg #[.int .i64 l.bits, .int .i64 l.every, .int .i64 l.poll, .int .i64 l.wait, .int .i64 l.quiet, .int .i64 l.tries]) ∧ lkOk l ∧ p' ≤ ts.length ∧ St A [g] w w' [dice g a c ts p'] P := by
  apply F_made_Dice_Link_ok
  unfold F_made_Dice_Link
  have H : St A [g] w w [dice g a c ts p] P := St.startM hP hB hn
  refine H.alloc ?_; clear H; intro b w1 H1
  refine dBits H1 (i := 0) rfl hts hp fun v0 p1 w2 h0 hp1 H2 => ?_
  refine dNext H2 (i := 0) rfl hts hp1 (by omega) fun v1 p2 w3 _ h1 hp2 H3 => ?_
  have h1 := h1 (by omega)
  refine kW_i64 (by omega) ?_
  refine dNext H3 (i := 0) rfl hts hp2 (by omega) fun v2 p3 w4 _ h2 hp3 H4 => ?_
  have h2 := h2 (by omega)
  refine kW_i64 (by omega) ?_
  refine dNext H4 (i := 0) rfl hts hp3 (by omega) fun v3 p4 w5 _ h3 hp4 H5 => ?_
  have h3 := h3 (by omega)
  refine kW_i64 (by omega) ?_
  refine dNext H5 (i := 0) rfl hts hp4 (by omega) fun v4 p5 w6 _ h4 hp5 H6 => ?_
  have h4 := h4 (by omega)
  refine dNext H6 (i := 0) rfl hts hp5 (by omega) fun v5 p6 w7 _ h5 hp6 H7 => ?_
  have h5 := h5 (by omega)
  refine kW_i64 (by omega) ?_
  simp only [List.cons_append, List.nil_append, List.set_cons_zero] at H7
  refine H7.store (i := 1) rfl (by rfl) (by rfl) ?_; intro w8 H8
  simp only [List.set_cons_succ, List.set_cons_zero] at H8
  refine ⟨_, _, _, _, _, _, H8.cells (i := 1) rfl, ?_⟩
  exact ⟨⟨v0, 1 + v1, 1 + v2, 1 + v3, v4, 1 + v5⟩, p6, rfl, ⟨h0, ⟨by dsimp only; omega, by dsimp only; omega⟩, ⟨by dsimp only; omega, by dsimp only; omega⟩, ⟨by dsimp only; omega, by dsimp only; omega⟩, ⟨by dsimp only; omega, by dsimp only; omega⟩, by dsimp only; omega, by dsimp only; omega⟩, hp6, St.dropLast (R := [_]) H8⟩
end
section
variable {A0 : Nat → Prop} {M : List Nat} {w0 w : World} {R : List Res} {P : World → Prop} {i g : Nat} {a : Option Addr} {c : Nat} {ts : List Int} {p : Nat}
theorem dLink (H : St A0 M w0 w R P) (hi : R[i]? = some (dice g a c ts p)) (hts : Rolls a ts P) (hp : p ≤ ts.length) {K : Lk → World → Prop}
    (h : ∀ l p' w', Fr [g] w w' → lkOk l → p' ≤ ts.length → St A0 M w0 w' (R.set i (dice g a c ts p')) P → K l w') :
    Calls Try.prog N_made_Dice_Link #[(.pointer (some ⟨g, 0, none⟩))] w fun e w' => ∃ l : Lk, e = .returned (.agg #[.int .i64 l.bits, .int .i64 l.every, .int .i64 l.poll, .int .i64 l.wait, .int .i64 l.quiet, .int .i64 l.tries]) ∧ K l w' := by
  obtain ⟨A, hA, hn', hr, hc⟩ := H.callM hi
  refine (made_Link_ct hA hts hr hn' hp).mono ?_
  rintro _ w2 ⟨l, p', rfl, hl, hp', S⟩
  have := hc S
  rw [List.append_nil] at this
  exact ⟨l, rfl, h l p' w2 S.fr hl hp' (this.imp fun _ h => h.2)⟩
end

section
variable {g : Nat} {a : Option Addr} {c : Nat} {ts : List Int} {p : Nat} {w : World} {A : Nat → Prop} {P : World → Prop}
end
end Go.Proofs.Ythceaojjeokclaa
/- CHAPTER 21: a thrown piece. -/
namespace Go.Proofs.Ythceaojjeokclaa
open Go.Sx Go.RowKit
set_option maxRecDepth 100000
theorem kNo {w w' : World} : KeepsB (fun _ => False) w w' := fun _ _ hp _ => hp.elim
theorem bytes_cut {u : List Int} (h : Bytes u) (f n : Nat) : Bytes ((u.drop f).take n) := by
  rw [bytes_mem] at *
  exact fun x hx => h x (List.mem_of_mem_drop (List.mem_of_mem_take hx))
theorem encP_bytes {b : Int} {p : Pc} (h : Bytes p.data) : Bytes (encP b p).1 := by
  unfold encP
  split
  · rename_i hp
    have hf := Pc.first_range hp
    obtain ⟨_, _, _, _, _, ho, _⟩ := hp
    rw [bytes_mem] at h ⊢
    intro x hx
    unfold Pc.bytes at hx
    simp only [List.mem_append] at hx
    rcases hx with (hx | hx) | hx
    · simp at hx; omega
    · split at hx
      · simp at hx
      · simp at hx; omega
    · exact h x hx
  · exact bytes_nil
theorem encP_len (b : Int) (p : Pc) : (encP b p).1.length ≤ p.data.length + 4 := by
  unfold encP Pc.bytes
  split
  · simp only [List.length_append, List.length_cons, List.length_nil]
    split <;> simp <;> omega
  · simp
abbrev rowsP (g : Nat) (a : Option Addr) (c : Nat) (ts : List Int) (p b b1 : Nat) (s : Rc) (sa : Option Addr) (sc : Nat) (T : List Res) : List Res :=
  dice g a c ts p :: .blk b Ty_api_Receiver (encRc s sa sc) :: .blk b1 Ty_api_Piece [.int .i64 0, .int .i64 0, .int .i64 0, .int .i64 0, .slice none 0 0] :: T
section
variable {g : Nat} {a : Option Addr} {c : Nat} {ts : List Int} {p : Nat} {w : World} {A : Nat → Prop} {P : World → Prop} {s : Rc} {sa : Option Addr} {sc : Nat}
end
end Go.Proofs.Ythceaojjeokclaa
/- CHAPTER 21: ReceiverGets. -/
namespace Go.Proofs.Ythceaojjeokclaa
open Go.Sx Go.RowKit
set_option maxRecDepth 100000
theorem _root_.Go.Sx.St.makeBl {A0 : Nat → Prop} {M : List Nat} {w0 w : World} {R : List Res} {P : World → Prop} (H : St A0 M w0 w R P) {by_ : Nat} {l cc : Int} {t : TypeId} {F : Nat → World → Prop} (n : Nat) (hl : l = n) (hc : cc = n) (hb : (by_ : Int) * n ≤ 281474976710656) (hn : n ≤ 4611686018427387904)
    (h : ∀ b w', St A0 M w0 w' (R ++ [.blk b t ((List.replicate n false).map Value.bool)]) P → F b w') : kMake w by_ l cc #[.bool false] 1 t F := by
  subst hl; subst hc
  refine ⟨⟨by omega, by omega, hb, by omega⟩, ?_⟩
  have e : (madeCells #[.bool false] ((n : Int).toNat * 1)).toList = (List.replicate n false).map Value.bool := by
    simp only [madeCells, Int.toNat_natCast, Nat.mul_one]
    apply List.ext_getElem
    · simp
    · intro i h1 h2
      simp [Nat.mod_one]
  refine (show kAlloc w (madeCells #[.bool false] ((n : Int).toNat * 1)) t F from H.alloc fun b w' H' => ?_)
  rw [e] at H'
  exact h b w' H'
def gf (G : List Bool) : Nat → Bool := fun k => G.getD k false
theorem gf_set {G : List Bool} {c : Nat} (hc : c < G.length) : gf (G.set c true) = setG (gf G) c := by
  funext k
  unfold gf setG
  by_cases h : k = c
  · subst h; rw [if_pos rfl]; simp [List.getD, hc]
  · rw [if_neg h]; simp [List.getD, List.getElem?_set_ne (Ne.symm h)]
def uU (c : Nat) : List Int := fillB c (3 + c % 9)
theorem uU_len (c : Nat) : (uU c).length = 3 + c % 9 := fillB_len _ _
theorem gf_at {G : List Bool} {k : Nat} (hk : k < G.length) : (G.map Value.bool)[k]? = some (.bool (gf G k)) := by
  rw [List.getElem?_map, List.getElem?_eq_getElem hk]
  unfold gf
  simp [List.getD, List.getElem?_eq_getElem hk]
theorem map_setB (G : List Bool) (c : Nat) : (G.map Value.bool).set c (.bool true) = (G.set c true).map Value.bool := by rw [List.map_set]
abbrev rowsG (g : Nat) (ta : Option Addr) (tc : Nat) (ts : List Int) (p b b1 b2 : Nat) (l : Lk) (s : Rc) (sa : Option Addr) (sc : Nat) (G : List Bool) (T : List Res) : List Res :=
  dice g ta tc ts p :: .blk b Ty_api_Link (encL l) :: .blk b1 Ty_api_Receiver (encRc s sa sc) :: .blk b2 Ty_bool (G.map Value.bool) :: T
theorem piece_of {u : List Int} {f t : Nat} {sn part : Int} (hf : f < t) (ht : t ≤ u.length) (hp : ends part = true ↔ (t : Int) = u.length) : Piece ⟨sn, part, 0, f, (u.drop f).take (t - f)⟩ u := by
  have hl : ((u.drop f).take (t - f)).length = t - f := by simp; omega
  have he : Pc.en ⟨sn, part, 0, f, (u.drop f).take (t - f)⟩ = t := by show (f : Int) + (((u.drop f).take (t - f)).length : Int) = t; rw [hl]; omega
  refine ⟨by show (0 : Int) ≤ f; omega, by show 1 ≤ ((u.drop f).take (t - f)).length; rw [hl]; omega, by rw [he]; omega, fun k h1 h2 => ?_, by rw [he]; exact hp⟩
  rw [he] at h2
  replace h1 : (f : Int) ≤ k := h1
  show ((u.drop f).take (t - f)).getD (k - (f : Int).toNat) 0 = u.getD k 0
  rw [Int.toNat_natCast]
  simp only [List.getD_eq_getElem?_getD]
  rw [List.getElem?_take, if_pos (by omega), List.getElem?_drop]
  congr 2; omega
section
variable {ta : Option Addr} {tc : Nat} {ts : List Int} {w : World}
theorem law21_ReceiverGets_ct (hts : SlR (IntC .i64) 1 w ta ts) :
    Calls Try.prog N_law21_ReceiverGets #[(.slice ta ts.length tc)] w fun e w' => e = .returned (.bool true) ∧ Below w.heap.size w w' := by
  apply F_law21_ReceiverGets_ok
  unfold F_law21_ReceiverGets
  have H := (St.startA w).hold (slr_held hts)
  refine made_Light_ct.mono ?_
  rintro _ w1 ⟨rfl, hb1⟩; have H1 := H.pass hb1; clear H
  refine ⟨_, rfl, ?_⟩
  refine bsplit_nd (fun c25 => ?_) (fun c25 => ?_)
  · refine law21_awake_ct.mono ?_
    rintro _ w2 ⟨rfl, hb2⟩; have H2 := H1.pass hb2; clear H1
    refine ⟨_, rfl, ?_⟩
    exact ⟨rfl, H2.below⟩
  refine made_Roll_ct.mono ?_
  rintro _ w3 ⟨g, rfl, K⟩; have H3 := H1.callR K; clear H1 K
  simp only [List.nil_append] at H3
  have hR0 : Rolls ta ts fun w => SlR (IntC .i64) 1 w ta ts ∧ True := ⟨fun _ h => h.1, by omega⟩
  refine ⟨_, rfl, ?_⟩
  refine (dLink H3 (i := 0) rfl hR0 (Nat.zero_le _) (K := fun l w4 => lkOk l ∧ ∃ p1, p1 ≤ ts.length ∧ St (All w) [] w w4 [dice g ta tc ts p1] (fun w => SlR (IntC .i64) 1 w ta ts ∧ True)) fun l p' w' _ h1 h2 h3 => ⟨h1, p', h2, h3⟩).mono ?_
  rintro _ w4 ⟨l, rfl, hl, p1, hp1, H4⟩; clear H3
  have hb : bitsOk l.bits := hl.1
  obtain ⟨hb1', hb2'⟩ := hb
  have hb : bitsOk l.bits := hl.1
  have hpw := pow_bits hb
  have hhf := pow_bits1 hb
  refine ⟨_, _, _, _, _, _, rfl, ?_⟩
  refine H4.alloc ?_; clear H4; intro b w5 H5
  simp only [List.cons_append, List.nil_append] at H5
  refine H5.store (i := 1) rfl (by rfl) (by rfl) ?_; clear H5; intro w6 H6
  simp only [List.set_cons_succ, List.set_cons_zero] at H6
  refine ⟨_, _, _, _, _, _, H6.cells (i := 1) rfl, ?_⟩
  refine (receiver_New_ct (l := l)).mono ?_
  have hnew : newRc l = (⟨l, 0, 0, 0, -1, 0, 0, false, []⟩, 0) := by unfold newRc; rw [if_pos hl]
  rintro _ w7 ⟨rfl, hpp, hb7⟩; have H7 := H6.pass hb7; clear H6
  refine ⟨_, _, _, _, _, _, _, _, _, _, _, _, _, _, _, _, _, rfl, ?_⟩
  refine H7.alloc ?_; clear H7; intro b1 w8 H8
  simp only [List.cons_append, List.nil_append] at H8
  refine H8.store (i := 2) rfl (by rfl) (by rfl) ?_; clear H8; intro w9 H9
  obtain ⟨s0, hs0⟩ : ∃ s0, s0 = (newRc l).1 := ⟨_, rfl⟩
  replace H9 : St (All w) [] w w9 [dice g ta tc ts p1, .blk b Ty_api_Link (encL l), .blk b1 Ty_api_Receiver (encRc s0 none 0)] (fun w => SlR (IntC .i64) 1 w ta ts ∧ True) := by
    rw [hs0]
    simp only [List.set_cons_succ, List.set_cons_zero] at H9
    exact H9
  have s0ok : s0.okB = true := by
    rw [hs0, hnew]
    exact new_ok hl (f := 0) (by unfold snOk; rcases hpw with e | e | e | e | e <;> rw [e] <;> omega)
  have s0gp : GP s0.parts := by rw [hs0, hpp]; exact gp_nil
  have s0lk : s0.lk = l := by rw [hs0, hnew]
  have s0f : s0.first = 0 := by rw [hs0, hnew]
  have s0p : s0.parts = [] := by rw [hs0, hpp]
  refine ⟨fun w11 => St (All w) [] w w11 [dice g ta tc ts p1, .blk b Ty_api_Link (encL l), .blk b1 Ty_api_Receiver (encRc s0 none 0)] (fun w => SlR (IntC .i64) 1 w ta ts ∧ True), ?_, ?_⟩
  · rintro _ w11 H11
    clear H9
    refine H11.ld (i := 1) rfl rfl ?_
    refine kW_i64 (by omega) ?_
    refine kW_u64 (by omega) ?_
    refine ⟨by omega, ?_⟩
    refine kShl1 (by omega) ?_
    refine H11.makeBl 2000 rfl rfl (by omega) (by omega) ?_
    intro b2 w12 H12
    clear H11
    simp only [List.cons_append, List.nil_append] at H12
    refine dNext H12 (i := 0) rfl hR0 hp1 (by omega) fun n0 p2 w13 _ hn0 hp2 H13 => ?_
    have hn0 := hn0 (by omega)
    simp only [List.set_cons_zero] at H13
    obtain ⟨G0, hG0⟩ : ∃ G0, G0 = List.replicate 2000 false := ⟨_, rfl⟩
    rw [← hG0] at H13
    have hg0 : ∀ k, gf G0 k = false := fun k => by
      rw [hG0]; unfold gf
      simp only [List.getD_eq_getElem?_getD, List.getElem?_replicate]
      split <;> rfl
    have hg0l : G0.length = 2000 := by rw [hG0]; exact List.length_replicate
    clear hG0
    refine ⟨fun first n => (n.toNat, fun w14 => ∃ (p : Nat) (s : Rc) (sa : Option Addr) (sc : Nat) (G : List Bool) (fi : Nat), first = fi ∧ 0 ≤ n ∧ n ≤ 69 ∧ p ≤ ts.length ∧ s.okB = true ∧ GP s.parts ∧ s.lk = l ∧ G.length = 2000 ∧ (fi : Int) ≤ 9 * (69 - n) ∧ (∀ k, gf G k = true → (k : Int) < 9 * (69 - n)) ∧ gf G fi = false ∧
      Rel l.bits uU s.first fi s.parts (gf G) ∧ s.first = fi % 2 ^ l.bits.toNat ∧ St (All w) [] w w14 (rowsG g ta tc ts p b b1 b2 l s sa sc G []) (fun w => PaR w sa s.parts ∧ SlR (IntC .i64) 1 w ta ts ∧ True)), ?_, ?_⟩
    · refine ⟨p2, s0, none, 0, G0, 0, rfl, by omega, by omega, hp2, s0ok, s0gp, s0lk, hg0l, by omega, fun k hk => ?_, hg0 0, ?_, ?_, ?_⟩
      · rw [hg0 k] at hk; cases hk
      · rw [s0f, s0p]
        have : gf G0 = fun _ => false := funext hg0
        rw [this]
        exact rel_new _ _
      · rw [s0f]; simp
      · refine H13.imp fun _ h => ⟨?_, h⟩
        rw [s0p]; exact .nil
    clear H12 H13
    rintro _ first n w14 ⟨p, s, sa, sc, G, fi, rfl, hn00, hn69, hp, hok, hgp, hlk, hGl, hfi, hGb, hG0, hR, hsf, H14⟩
    refine bsplit_dec (fun c24 => ?_) (fun c24 => ?_)
    · have hR1 := hR0.and (fun w => PaR w sa s.parts)
      have e9 : (if (9 : Int) < 2 ^ (l.bits - 1).toNat then (9 : Int) else 2 ^ (l.bits - 1).toNat) = 9 := if_pos (by omega)
      rw [e9]
      refine dNext H14 (i := 0) rfl hR1 hp (by omega) fun v p3 w15 _ hv hp3 H15 => ?_
      clear H14
      have hv := hv (by omega)
      obtain ⟨j, rfl⟩ := natOf hv.1
      replace H15 : St (All w) [] w w15 (rowsG g ta tc ts p3 b b1 b2 l s sa sc G []) (fun w => PaR w sa s.parts ∧ SlR (IntC .i64) 1 w ta ts ∧ True) := H15
      refine kW_i64 (by omega) ?_
      obtain ⟨c, hc⟩ : ∃ c : Nat, c = fi + j := ⟨_, rfl⟩
      have hcc : (fi : Int) + (j : Int) = (c : Int) := by omega
      rw [hcc]
      refine kTmod (by omega) ?_
      refine kW_i64 (by omega) ?_
      have e3 : (3 : Int) + (c : Int) % 9 = ((3 + c % 9 : Nat) : Int) := by omega
      rw [e3]
      refine (made_Filled_ct (n := 3 + c % 9) (seed := c) (by omega) (by omega)).mono ?_
      obtain ⟨u, hu⟩ : ∃ u, u = uU c := ⟨_, rfl⟩
      have hul : u.length = 3 + c % 9 := by rw [hu]; exact uU_len c
      have hub : Bytes u := by rw [hu]; exact fillB_bytes _ _
      have hu2 : fillB (c : Int) (3 + c % 9) = u := hu.symm
      rw [hu2, ← hul]
      rintro _ w16 ⟨ua, uc, rfl, K⟩; have H16 := H15.callR K; clear K H15
      replace H16 : St (All w) [] w w16 (rowsG g ta tc ts p3 b b1 b2 l s sa sc G [.ints Ty_uint8 .u8 ua uc u]) (fun w => PaR w sa s.parts ∧ SlR (IntC .i64) 1 w ta ts ∧ True) := H16
      have huc := H16.capI (i := 4) rfl
      refine ⟨_, _, _, rfl, ?_⟩
      refine dNext H16 (i := 0) rfl hR1 hp3 (by omega) fun f0 p4 w17 _ hf0 hp4 H17 => ?_
      have hf0 := hf0 (by omega)
      refine kW_i64 (by omega) ?_
      refine kW_i64 (by omega) ?_
      refine dNext H17 (i := 0) rfl hR1 hp4 (by omega) fun t0 p5 w18 _ ht0 hp5 H18 => ?_
      have ht0 := ht0 (by omega)
      replace H18 : St (All w) [] w w18 (rowsG g ta tc ts p5 b b1 b2 l s sa sc G [.ints Ty_uint8 .u8 ua uc u]) (fun w => PaR w sa s.parts ∧ SlR (IntC .i64) 1 w ta ts ∧ True) := H18
      clear H16 H17
      refine kW_i64 (by omega) ?_
      refine ⟨fun f1 t1 w20 => (0 ≤ f1 ∧ f1 < t1 ∧ t1 ≤ u.length) ∧ ∃ p', p' ≤ ts.length ∧ St (All w) [] w w20 (rowsG g ta tc ts p' b b1 b2 l s sa sc G [.ints Ty_uint8 .u8 ua uc u]) (fun w => PaR w sa s.parts ∧ SlR (IntC .i64) 1 w ta ts ∧ True), ?_, ?_⟩
      · rintro _ f1 t1 w20 ⟨hft, p6, hp6, H20⟩
        clear H18
        obtain ⟨f, rfl⟩ := natOf hft.1
        obtain ⟨t, rfl⟩ := natOf (show 0 ≤ t1 by omega)
        obtain ⟨sn, hsn⟩ : ∃ sn, sn = (c : Int) % 2 ^ l.bits.toNat := ⟨_, rfl⟩
        refine ⟨fun pp w30 => ∃ pb : Nat, pp = (⟨pb, 0, none⟩ : Addr) ∧ St (All w) [] w w30 (rowsG g ta tc ts p6 b b1 b2 l s sa sc G [.ints Ty_uint8 .u8 ua uc u, .blk pb Ty_api_Piece [.int .i64 sn, .int .i64 3, .int .i64 0, .int .i64 f, .slice (slAddr uc f 1 ua) (t - f) (uc - f)]]) (fun w => PaR w sa s.parts ∧ SlR (IntC .i64) 1 w ta ts ∧ True), ?_, ?_⟩
        · rintro _ _ w30 ⟨pb, rfl, H30⟩
          clear H20
          refine ⟨fun w35 => ∃ part : Int, (0 ≤ part ∧ part ≤ 3) ∧ ((part = 0 ∨ part = 1) ↔ f = 0) ∧ (ends part = true ↔ (t : Int) = u.length) ∧ St (All w) [] w w35 (rowsG g ta tc ts p6 b b1 b2 l s sa sc G [.ints Ty_uint8 .u8 ua uc u, .blk pb Ty_api_Piece [.int .i64 sn, .int .i64 part, .int .i64 0, .int .i64 f, .slice (slAddr uc f 1 ua) (t - f) (uc - f)]]) (fun w => PaR w sa s.parts ∧ SlR (IntC .i64) 1 w ta ts ∧ True), ?_, ?_⟩
          · rintro _ w35 ⟨part, hpt, hpt2, hpt3, H35⟩
            clear H30
            refine ⟨_, _, _, _, _, _, _, H35.cells (i := 5) rfl, ?_⟩
            obtain ⟨q, hq⟩ : ∃ q : Pc, q = ⟨sn, part, 0, f, (u.drop f).take (t - f)⟩ := ⟨_, rfl⟩
            have hql : ((u.drop f).take (t - f)).length = t - f := by simp only [List.length_take, List.length_drop]; omega
            have hPc : Piece q (uU (fi + j)) := by rw [hq, ← hc, ← hu]; exact piece_of (by omega) (by omega) hpt3
            have hqok : q.ok l.bits := by
              rw [hq]
              refine ⟨hb, ?_, hpt, ⟨by show (0 : Int) ≤ 0; omega, by show (0 : Int) ≤ 1; omega⟩, ?_, ⟨by show (0 : Int) ≤ f; omega, by show (f : Int) ≤ 2054; omega⟩, ?_, ?_⟩
              · show 0 ≤ sn ∧ sn < _
                rw [hsn]
                rcases hpw with e | e | e | e | e <;> rw [e] <;> omega
              · show (part = 0 ∨ part = 1) ↔ (f : Int) = 0
                rw [hpt2]; omega
              · show 1 ≤ ((u.drop f).take (t - f)).length; omega
              · show (f : Int) + ((u.drop f).take (t - f)).length ≤ 2054; omega
            have hqpl : s.place q.sn = j := by
              rw [hq]
              show way s.lk.bits s.first sn = j
              rw [hlk, hsf, hsn, hc]
              unfold way
              rcases hpw with e | e | e | e | e <;> rw [e] <;> omega
            have hbe : Bytes q.bytes := by
              have := encP_bytes (b := l.bits) (p := q) (by rw [hq]; exact bytes_cut hub _ _)
              unfold encP at this
              rw [if_pos hqok] at this; exact this
            have hle : q.bytes.length ≤ 100 := by
              have := encP_len l.bits q
              unfold encP at this
              rw [if_pos hqok] at this
              rw [hq] at this ⊢
              dsimp only at this; omega
            have hee : encP l.bits q = (q.bytes, 0) := by unfold encP; rw [if_pos hqok]
            have C := ref18_Encode_ct (bits := l.bits) (p_0 := sn) (p_1 := part) (p_2 := 0) (p_3 := f) (d := (u.drop f).take (t - f)) (p_4_c := uc - f) ((H35.slI (i := 4) rfl).cut huc _) (by omega)
            rw [← hq, hee, hql] at C
            refine C.mono ?_; clear C
            rintro _ w36 ⟨a36, c36, hc36, rfl, K⟩; have H36 := H35.callF K; clear K H35
            simp only [List.append_nil] at H36
            refine ⟨_, _, _, _, rfl, ?_⟩
            obtain ⟨rr, hrr⟩ : ∃ rr, rr = recS s q.bytes := ⟨_, rfl⟩
            have hst := rel_step (s := s) (U := uU) (G := gf G) (first := fi) (j := j) (q := q) hok (by rw [hlk]; exact hR) hG0 (by rw [hlk]; exact hqok) hqpl (by rw [hqpl, hlk]; omega) hPc (by rw [hq])
            have hok2 := rec_ok (bs := q.bytes) hok fun b bs h => decP_good h
            obtain ⟨hgp2, hrb⟩ := rec_gp hgp hbe
            refine ⟨_, _, _, _, _, _, _, _, _, _, _, _, _, _, _, _, H36.cells (i := 2) rfl, ?_⟩
            have C := receiver_Receive_ct (s := s) (a := sa) (c := sc) (bs := q.bytes) (b_a := a36) (b_c := c36) H36.get.2.1 hgp.sm H36.get.1 hbe (by omega) hc36
            rw [← hrr] at hst hok2 hgp2 hrb C
            rw [hlk] at hst
            obtain ⟨t1, t2, t3, t4, t5⟩ := hst
            refine C.mono ?_; clear C
            rintro _ w37 ⟨a37, c37, ba37, bc37, rfl, hbc37, K⟩; have H37 := H36.callF K; clear K H36
            simp only [List.append_nil] at H37
            refine ⟨_, _, _, _, _, _, _, _, _, _, _, _, _, _, _, _, _, _, _, _, rfl, ?_⟩
            refine H37.store (i := 2) rfl (by rfl) (by rfl) ?_; clear H37; intro w38 H38
            replace H38 : St (All w) [] w w38 (rowsG g ta tc ts p6 b b1 b2 l rr.1 a37 c37 G [.ints Ty_uint8 .u8 ua uc u]) (fun w => SlR (IntC .u8) 1 w ba37 rr.2.1 ∧ PaR w a37 rr.1.parts ∧ SlR (IntC .i64) 1 w ta ts ∧ True) :=
              (St.dropLast (R := [_, _, _, _, _]) H38).imp fun _ h => ⟨h.1.2, h.1.1, h.2.2.2⟩
            refine ⟨fun x14 w43 => x14 = false ∧ St (All w) [] w w43 (rowsG g ta tc ts p6 b b1 b2 l rr.1 a37 c37 G [.ints Ty_uint8 .u8 ua uc u]) (fun w => SlR (IntC .u8) 1 w ba37 rr.2.1 ∧ PaR w a37 rr.1.parts ∧ SlR (IntC .i64) 1 w ta ts ∧ True), ?_, ?_⟩
            · rintro _ x14 w43 ⟨rfl, H43⟩
              clear H38
              refine bsplit_intro (fun c18 => by cases c18) (fun c18 => ?_)
              refine ⟨fun w46 => ∃ G' : List Bool, G'.length = 2000 ∧ gf G' = (if rr.2.1 ≠ [] then setG (gf G) (fi + j) else gf G) ∧ St (All w) [] w w46 (rowsG g ta tc ts p6 b b1 b2 l rr.1 a37 c37 G' []) (fun w => PaR w a37 rr.1.parts ∧ SlR (IntC .i64) 1 w ta ts ∧ True), ?_, ?_⟩
              · rintro _ w46 ⟨G', hGl', hG', H46⟩
                clear H43
                have hGb' : ∀ k, gf G' k = true → (k : Int) < 9 * (70 - n) := fun k hk => by
                  rw [hG'] at hk
                  split at hk
                  · unfold setG at hk
                    split at hk
                    · omega
                    · have := hGb k hk; omega
                  · have := hGb k hk; omega
                refine ⟨fun first1 => ((2000 - first1).toNat, fun w47 => ∃ d : Nat, first1 = ((fi + d : Nat) : Int) ∧ (∀ k, k < d → gf G' (fi + k) = true) ∧ St (All w) [] w w47 (rowsG g ta tc ts p6 b b1 b2 l rr.1 a37 c37 G' []) (fun w => PaR w a37 rr.1.parts ∧ SlR (IntC .i64) 1 w ta ts ∧ True)), ⟨0, rfl, fun k hk => by omega, H46⟩, ?_⟩
                clear H46
                rintro _ first1 w47 ⟨d, rfl, hd, H47⟩
                have hbd : ((fi + d : Nat) : Int) ≤ 9 * (70 - n) := by
                  rcases Nat.eq_zero_or_pos d with h | h
                  · omega
                  · have := hGb' _ (hd (d - 1) (by omega)); omega
                have hat := gf_at (G := G') (k := fi + d) (by omega)
                refine kIx_at ⟨by omega, by omega⟩ ?_
                rw [add_mk, Nat.zero_add, Int.toNat_natCast, Nat.mul_one]
                refine ⟨_, H47.cell (i := 3) rfl hat, ?_⟩
                refine bsplit_intro (fun c17 => ?_) (fun c17 => ?_)
                · refine kW_i64 (by omega) ?_
                  exact ⟨⟨d + 1, by omega, fun k hk => by
                    rcases Nat.lt_or_ge k d with h | h
                    · exact hd k h
                    · rw [show k = d by omega]; exact c17, H47⟩, by dsimp only; omega⟩
                · obtain ⟨z1, z2⟩ := t5 (gf G') hG' d hd c17
                  refine H47.drew ?_; clear H47; intro w48 H48
                  refine ⟨(· < w48.heap.size), ?_⟩
                  refine ⟨H48.lt (i := 2) rfl rfl, ?_⟩
                  refine H48.ld (i := 2) rfl rfl ?_
                  refine ref02_Low_ct.mono ?_
                  rintro _ w49 ⟨rfl, hb49⟩; have H49 := H48.pass hb49
                  clear H48
                  rw [low_pow hb]
                  refine ⟨_, rfl, ?_⟩
                  refine ⟨hb49.keeps, ?_⟩
                  have z3 : rr.1.first = ((fi + d : Nat) : Int) % 2 ^ l.bits.toNat := by
                    rw [z1, hsf]
                    rcases hpw with e | e | e | e | e <;> rw [e] <;> omega
                  refine bsplit_nd (fun c16 => absurd z3 c16) (fun c16 => ?_)
                  refine kW_i64 (by omega) ?_
                  refine ⟨⟨p6, rr.1, a37, c37, G', fi + d, rfl, by omega, by omega, hp6, hok2, hgp2, t3, hGl', by omega, fun k hk => by have := hGb' k hk; omega, c17, ?_, z3, H49⟩, by dsimp only; omega⟩
                  exact z2
              · refine bsplit_dec (fun c15 => ?_) (fun c15 => ?_)
                · have hne : rr.2.1 ≠ [] := fun h => by rw [h] at c15; simp at c15
                  obtain ⟨v1, v2⟩ := t4 hne
                  have hat := gf_at (G := G) (k := c) (by omega)
                  refine kIx_at ⟨by omega, by omega⟩ ?_
                  rw [add_mk, Nat.zero_add, Int.toNat_natCast, Nat.mul_one]
                  refine ⟨_, H43.cell (i := 3) rfl hat, ?_⟩
                  refine bsplit_intro (fun c14 => ?_) (fun c14 => ?_)
                  · rw [hc] at c14; rw [v1] at c14; cases c14
                  · have C := ref01_Same_ct (c1 := bc37) (c2 := uc) H43.get.1 (H43.slI (i := 4) rfl) hrb hub
                    refine C.mono ?_; clear C
                    rintro _ w44 ⟨rfl, hb44⟩; have H44 := H43.pass hb44; clear H43
                    refine ⟨_, rfl, ?_⟩
                    refine bsplit_nd (fun c13 => absurd (by rw [v2, ← hc, hu]) c13) (fun c13 => ?_)
                    refine kIx_at ⟨by omega, by omega⟩ ?_
                    rw [add_mk, Nat.zero_add]
                    refine H44.set (i := 3) (o := c) rfl (by rw [List.length_map, hGl]; omega) ?_; clear H44; intro w45 H45
                    refine ⟨G.set c true, by simp [hGl], by rw [gf_set (by omega), if_pos hne, hc], ?_⟩
                    replace H45 : St (All w) [] w w45 [dice g ta tc ts p6, .blk b Ty_api_Link (encL l), .blk b1 Ty_api_Receiver (encRc rr.1 a37 c37), .blk b2 Ty_bool ((G.map Value.bool).set c (.bool true)), .ints Ty_uint8 .u8 ua uc u] (fun w => SlR (IntC .u8) 1 w ba37 rr.2.1 ∧ PaR w a37 rr.1.parts ∧ SlR (IntC .i64) 1 w ta ts ∧ True) := H45
                    rw [map_setB] at H45
                    exact (St.dropLast (R := [_, _, _, _]) H45).imp fun _ h => h.2
                · have hne : rr.2.1 = [] := List.eq_nil_of_length_eq_zero (by omega)
                  refine ⟨G, hGl, by rw [if_neg (fun h => h hne)], (St.dropLast (R := [_, _, _, _]) H43).imp fun _ h => h.2⟩
            · have hval : ∀ {K : Bool → World → Prop}, (∀ w', St (All w) [] w w' (rowsG g ta tc ts p6 b b1 b2 l rr.1 a37 c37 G [.ints Ty_uint8 .u8 ua uc u]) (fun w => SlR (IntC .u8) 1 w ba37 rr.2.1 ∧ PaR w a37 rr.1.parts ∧ SlR (IntC .i64) 1 w ta ts ∧ True) → K true w') →
                  Calls Try.prog N_receiver_Valid #[aggRc rr.1 a37 c37] w38 fun e w' => ∃ r : Bool, e = .returned (.bool r) ∧ K r w' := fun {K} hK => by
                refine (receiver_Valid_ct H38.get.2.1 hgp2.sm).mono ?_
                rintro _ w39 ⟨rfl, hb39⟩
                refine ⟨_, rfl, ?_⟩
                rw [hok2]
                exact hK _ (H38.pass hb39)
              refine bsplit_nd (fun c12 => ?_) (fun c12 => ?_)
              · have hz : rr.2.2 = 12 := t1.resolve_left c12
                have hx0 : rr.2.1 = [] := t2 c12
                refine bsplit_nd (fun c9 => absurd hz c9) (fun c9 => ?_)
                refine bsplit_nd (fun c8 => ?_) (fun c8 => absurd c8 c12)
                refine bsplit_dec (fun c7 => ?_) (fun c7 => ?_)
                · rw [hx0] at c7; simp at c7
                · refine ⟨_, _, _, _, _, _, _, _, _, _, _, _, _, _, _, _, H38.cells (i := 2) rfl, ?_⟩
                  exact hval fun w' H' => ⟨rfl, H'⟩
              · refine bsplit_nd (fun c11 => absurd c12 c11) (fun c11 => ?_)
                refine ⟨_, _, _, _, _, _, _, _, _, _, _, _, _, _, _, _, H38.cells (i := 2) rfl, ?_⟩
                exact hval fun w' H' => ⟨rfl, H'⟩
          · refine ⟨fun x11 w31 => (x11 = true ↔ f = 0 ∧ (t : Int) = u.length) ∧ St (All w) [] w w31 (rowsG g ta tc ts p6 b b1 b2 l s sa sc G [.ints Ty_uint8 .u8 ua uc u, .blk pb Ty_api_Piece [.int .i64 sn, .int .i64 3, .int .i64 0, .int .i64 f, .slice (slAddr uc f 1 ua) (t - f) (uc - f)]]) (fun w => PaR w sa s.parts ∧ SlR (IntC .i64) 1 w ta ts ∧ True), ?_, ?_⟩
            · rintro _ x11 w31 ⟨hx, H31⟩
              clear H30
              have he : ∀ k : Int, ends k = true ↔ k = 0 ∨ k = 2 := fun k => by unfold ends; simp
              refine bsplit_intro (fun c6 => ?_) (fun c6 => ?_)
              · try rw [add_mk]
                refine H31.set (i := 5) rfl (by show 1 < 5; decide) ?_; clear H31; intro w32 H32
                have := hx.1 c6
                exact ⟨0, by omega, by omega, by rw [he]; omega, H32⟩
              · have hn : ¬ (f = 0 ∧ (t : Int) = u.length) := fun h => by rw [hx.2 h] at c6; cases c6
                refine kLet_in ?_
                refine bsplit_dec (fun c5 => ?_) (fun c5 => ?_)
                · try rw [add_mk]
                  refine H31.set (i := 5) rfl (by show 1 < 5; decide) ?_; clear H31; intro w33 H33
                  exact ⟨1, by omega, by omega, by rw [he]; omega, H33⟩
                · refine kLet_in ?_
                  refine bsplit_dec (fun c4 => ?_) (fun c4 => ?_)
                  · try rw [add_mk]
                    refine H31.set (i := 5) rfl (by show 1 < 5; decide) ?_; clear H31; intro w34 H34
                    exact ⟨2, by omega, by omega, by rw [he]; omega, H34⟩
                  · exact ⟨3, by omega, by omega, by rw [he]; omega, H31⟩
            · refine bsplit_dec (fun c3 => ?_) (fun c3 => ?_)
              · refine kLet_in ?_
                exact ⟨by rw [decide_eq_true_iff]; omega, H30⟩
              · exact ⟨⟨fun h => Bool.noConfusion h, fun h => absurd (by omega) c3⟩, H30⟩
        · refine H20.drew ?_; clear H20; intro w21 H21
          refine ⟨fun _ => False, ?_⟩
          refine ⟨⟨by omega, by omega⟩, ?_⟩
          refine ⟨⟨by omega, by omega⟩, ?_⟩
          refine ⟨?_, ?_, trivial⟩
          · refine ref02_Low_ct.mono ?_
            rintro _ w22 ⟨rfl, hb22⟩; have H22 := H21.pass hb22
            rw [low_pow hb, ← hsn]
            refine ⟨_, rfl, ?_⟩
            refine ⟨kNo, ?_⟩
            refine ⟨?_, ?_, trivial⟩
            · refine ⟨kNo, ?_⟩
              refine H22.allocB ?_; intro b3 w23 hb23 H23
              refine ⟨kNo, ?_⟩
              refine H23.store (i := 5) rfl (by rfl) (by rfl) ?_; intro w24 H24
              exact ⟨b3, rfl, H24⟩
            · refine H22.allocB ?_; intro b4 w25 hb25 H25
              refine ⟨kNo, ?_⟩
              refine ⟨kNo, ?_⟩
              refine H25.store (i := 5) rfl (by rfl) (by rfl) ?_; intro w26 H26
              exact ⟨b4, rfl, H26⟩
          · refine H21.allocB ?_; intro b5 w27 hb27 H27
            refine ⟨kNo, ?_⟩
            refine ref02_Low_ct.mono ?_
            rintro _ w28 ⟨rfl, hb28⟩; have H28 := H27.pass hb28
            rw [low_pow hb, ← hsn]
            refine ⟨_, rfl, ?_⟩
            refine ⟨kNo, ?_⟩
            refine ⟨kNo, ?_⟩
            refine H28.store (i := 5) rfl (by rfl) (by rfl) ?_; intro w29 H29
            exact ⟨b5, rfl, H29⟩
      · refine made_One_ct H18 (i := 0) rfl hR1 hp5 (by omega) fun v3 p6 w19 _ hp6 H19 => ?_
        refine bsplit_intro (fun c2 => ?_) (fun c2 => ?_)
        · exact ⟨by omega, p6, hp6, H19⟩
        · exact ⟨by omega, p6, hp6, H19⟩
    · obtain ⟨m1, m2⟩ := rel_rep (s := s) (U := uU) (G := gf G) (first := fi) hok (by rw [hlk]; exact hR)
      have m3 := statR_ok hok
      obtain ⟨ss, hss⟩ : ∃ ss, ss = statR s := ⟨_, rfl⟩
      refine ⟨_, _, _, _, _, _, _, _, _, _, _, _, _, _, _, _, H14.cells (i := 2) rfl, ?_⟩
      have C := receiver_Status_ct (s := s) (a := sa) (c := sc) (w := w14) H14.get.1 hgp.sm
      rw [← hss] at m1 m2 m3 C
      rw [hlk] at m3
      refine C.mono ?_; clear C
      rintro _ w50 ⟨a50, c50, _, rfl, K⟩; have H50 := H14.callF K; clear K H14
      simp only [List.append_nil] at H50
      refine ⟨_, _, _, _, _, rfl, ?_⟩
      refine H50.alloc ?_; clear H50; intro b9 w51 H51
      simp only [List.cons_append, List.nil_append] at H51
      refine H51.store (i := 4) rfl (by rfl) (by rfl) ?_; clear H51; intro w52 H52
      replace H52 : St (All w) [] w w52 (rowsG g ta tc ts p b b1 b2 l s sa sc G [.blk b9 Ty_api_Status [.int .i64 ss.1.upto, .slice a50 ss.1.miss.length c50]]) (fun w => SlR (CE encR) 3 w a50 ss.1.miss) := by
        simp only [List.set_cons_succ, List.set_cons_zero] at H52
        exact H52.imp fun _ h => h.1
      have hml : ss.1.miss.length ≤ 64 := m3.2.2.1
      refine ⟨fun w54 => St (All w) [] w w54 (rowsG g ta tc ts p b b1 b2 l s sa sc G [.blk b9 Ty_api_Status [.int .i64 ss.1.upto, .slice a50 ss.1.miss.length c50]]) (fun w => SlR (CE encR) 3 w a50 ss.1.miss), ?_, ?_⟩
      · rintro _ w54 H54
        clear H52
        refine ⟨fun i => ((ss.1.miss.length - i).toNat, fun w55 => ∃ k : Nat, i = k ∧ St (All w) [] w w55 (rowsG g ta tc ts p b b1 b2 l s sa sc G [.blk b9 Ty_api_Status [.int .i64 ss.1.upto, .slice a50 ss.1.miss.length c50]]) (fun w => SlR (CE encR) 3 w a50 ss.1.miss)), ⟨0, rfl, H54⟩, ?_⟩
        clear H54
        rintro _ i w55 ⟨k, rfl, H55⟩
        refine H55.ldS (i := 4) rfl rfl ?_
        refine bsplit_dec (fun c23 => ?_) (fun c23 => ?_)
        · refine H55.drew ?_; clear H55; intro w56 H56
          refine H56.ld (i := 2) rfl rfl ?_
          refine H56.ldS (i := 4) rfl rfl ?_
          have hkl : k < ss.1.miss.length := by omega
          refine ixE H56.get k rfl (by omega) fun b5 x hx hb5 => ?_
          obtain rfl : ss.1.miss[k] = x := by rw [List.getElem?_eq_getElem hkl] at hx; exact Option.some.inj hx
          refine ⟨_, by have := cellsAt_get hb5 0 _ rfl; rwa [Nat.zero_add] at this, ?_⟩
          refine ref02_Distance_ct.mono ?_
          rintro _ w57 ⟨rfl, hb57⟩; have H57 := H56.pass hb57
          clear H56
          rw [if_pos (by omega)]
          refine ⟨_, rfl, ?_⟩
          have hg := m2 _ (List.getElem_mem hkl)
          have hpl : way l.bits s.first ss.1.miss[k].sn = s.place ss.1.miss[k].sn := by unfold Rc.place; rw [hlk]
          have hpr := way_range l.bits s.first ss.1.miss[k].sn
          obtain ⟨m, hm⟩ := natOf hpr.1
          rw [hpl] at hm
          rw [hpl, hm]
          rw [hm, Int.toNat_natCast] at hg
          have hm5 : (m : Int) < 512 := by
            rw [← hm, ← hpl]
            unfold way
            rcases hpw with e | e | e | e | e <;> rw [e] <;> omega
          refine kW_i64 (by omega) ?_
          have hcm : (fi : Int) + (m : Int) = ((fi + m : Nat) : Int) := by omega
          rw [hcm]
          refine bsplit_dec (fun c22 => ?_) (fun c22 => ?_)
          · exfalso; omega
          · have hat := gf_at (G := G) (k := fi + m) (by omega)
            refine kIx_at ⟨by omega, by omega⟩ ?_
            rw [add_mk, Nat.zero_add, Int.toNat_natCast, Nat.mul_one]
            refine ⟨_, H57.cell (i := 3) rfl hat, ?_⟩
            refine bsplit_intro (fun c21 => ?_) (fun c21 => ?_)
            · rw [hg] at c21; cases c21
            · refine kW_i64 (by omega) ?_
              exact ⟨⟨k + 1, by omega, H57⟩, by dsimp only; omega⟩
        · exact ⟨rfl, H55.below⟩
      · refine bsplit_nd (fun c20 => absurd m1 c20) (fun c20 => ?_)
        refine ⟨_, _, _, _, H52.cells (i := 4) rfl, ?_⟩
        refine (ref19_Valid_ct H52.get (by omega)).mono ?_
        rintro _ w53 ⟨rfl, hb53⟩; have H53 := H52.pass hb53; clear H52
        refine ⟨_, rfl, ?_⟩
        refine bsplit_nd (fun c19 => absurd m3 c19) (fun c19 => ?_)
        exact H53
  · refine law21_awake_ct.mono ?_
    rintro _ w10 ⟨rfl, hb10⟩; have H10 := H9.pass hb10; clear H9
    refine ⟨_, rfl, ?_⟩
    refine bsplit_n (fun c1 => by cases c1) (fun c1 => ?_)
    refine bsplit_nd (fun c => absurd (by rw [hnew]) c) (fun c => ?_)
    exact H10
end
end Go.Proofs.Ythceaojjeokclaa
