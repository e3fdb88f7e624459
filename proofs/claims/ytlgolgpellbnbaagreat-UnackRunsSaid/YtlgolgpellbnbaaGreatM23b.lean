import Derived.Test.YtlgolgpellbnbaaGreatM21b
import Derived.Test.YtlgolgpellbnbaaGreatForms
import Derived.Test.YtlgolgpellbnbaaGreatTys
import Derived.Test.YtlgolgpellbnbaaGreatBt
import Derived.Test.YtlgolgpellbnbaaGreatEl
import Derived.Test.YtlgolgpellbnbaaGreatM23
import Derived.Test.YtlgolgpellbnbaaGreatM18
import Derived.Test.YtlgolgpellbnbaaGreatFxUnackRuns
namespace Go.Sx
theorem end_come {x : Pa} (h : normB (-1) x.come = true) (e : (x.data.length : Int) = endT x.come) : ∀ r ∈ x.come, r.t ≤ x.data.length := by
  intro r hr
  have := (norm_end (q := 0) h).1 r hr
  unfold endT at e; omega
theorem getD_at2 {d : List Int} {k : Nat} (h : k < d.length) : d.getD k 0 = d[k] := by simp [List.getD, List.getElem?_eq_getElem h]
theorem zero_iff {x : Pa} (h : normB (-1) x.come = true) (e : (x.data.length : Int) = endT x.come) :
    zeroB x = true ↔ ∀ k : Nat, k < x.data.length → covB k x.come = false → x.data.getD k 0 = 0 := by
  have ht := end_come h e
  have hc := fun k : Int => gaps_cov x.sn k x.data.length x.come 0 (by simpa using h) ht
  have hn := gaps_norm x.sn x.data.length x.come (-1) 0 (by simpa using h) (by omega)
  have hg := norm_lt _ _ hn
  have hle : ∀ g ∈ gapsS x.sn x.come 0 x.data.length, g.t ≤ x.data.length := gaps_le x.sn x.data.length x.come 0 fun r hr => by
    have := norm_lt _ _ h r hr; have := ht r hr; omega
  unfold zeroB
  rw [List.all_eq_true]
  constructor
  · intro hz k hk hck
    have h1 := hc k
    rw [hck] at h1
    have h2 : covB (k : Int) (gapsS x.sn x.come 0 x.data.length) = true := by rw [h1]; simp; omega
    obtain ⟨g, hg1, hg2, hg3⟩ := cov_iff.1 h2
    have h3 := hz g hg1
    rw [List.all_eq_true] at h3
    have h4 := hg g hg1
    have h5 := hle g hg1
    have hi : k - g.f.toNat < ((x.data.drop g.f.toNat).take (g.t.toNat - g.f.toNat)).length := by simp only [List.length_take, List.length_drop]; omega
    have h6 := h3 _ (List.getElem_mem hi)
    simp only [List.getElem_take, List.getElem_drop, decide_eq_true_eq] at h6
    rw [getD_at2 hk]
    rw [← h6]
    congr 1; omega
  · intro hz g hg1
    rw [List.all_eq_true]
    intro c hcm
    obtain ⟨j, hj, rfl⟩ := List.getElem_of_mem hcm
    simp only [List.getElem_take, List.getElem_drop, decide_eq_true_eq]
    simp only [List.length_take, List.length_drop] at hj
    have h4 := hg g hg1
    have h5 := hle g hg1
    have hk : g.f.toNat + j < x.data.length := by omega
    have h1 := hc ((g.f.toNat + j : Nat) : Int)
    have h2 : covB ((g.f.toNat + j : Nat) : Int) (gapsS x.sn x.come 0 x.data.length) = true := cov_iff.2 ⟨g, hg1, by omega, by omega⟩
    rw [h2] at h1
    have h3 : covB ((g.f.toNat + j : Nat) : Int) x.come = false := by
      cases hb : covB ((g.f.toNat + j : Nat) : Int) x.come with
      | false => rfl
      | true => rw [hb] at h1; simp at h1
    have := hz _ hk h3
    rwa [getD_at2 hk] at this
theorem contra_new (n : Int) (p : Pc) (h : 1 ≤ p.en) : contraB (newPa n) p = false := by
  unfold contraB
  split
  · rw [decide_eq_false_iff_not]
    rintro (⟨h1, _⟩ | h1)
    · exact h1 rfl
    · simp only [newPa, endT, lastT] at h1; omega
  · rw [decide_eq_false_iff_not]
    rintro ⟨h1, _⟩
    exact h1 rfl
def Open (x : Pa) : Prop := x.done = false ∧ (x.len = -1 ∨ (1 ≤ x.len ∧ x.len ≤ 2054 ∧ (x.data.length : Int) ≤ x.len)) ∧ normB (-1) x.come = true ∧ (x.data.length : Int) = endT x.come ∧ x.data.length ≤ 2054 ∧ ∀ k : Nat, k < x.data.length → covB k x.come = false → x.data.getD k 0 = 0
theorem open_new (n : Int) : Open (newPa n) := ⟨rfl, .inl rfl, rfl, rfl, Nat.zero_le _, fun k h => by simp [newPa] at h⟩
theorem open_of {x : Pa} (hd : x.done = false) (h : paB x = true) : Open x := by
  rw [paB, if_neg (by rw [hd]; decide), Bool.and_eq_true, decide_eq_true_iff] at h
  obtain ⟨⟨h1, h2, h3, h4, h5, h6, h7⟩, hz⟩ := h
  exact ⟨hd, h1, h3, h5, h6, (zero_iff h3 h5).1 hz⟩
theorem merge_open {x : Pa} {p : Pc} (h : Open x) (hp : (0 ≤ p.off ∧ p.off ≤ 2054) ∧ 1 ≤ p.data.length ∧ p.off + p.data.length ≤ 2054) (hc : contraB x p = false) :
    Open (mergeS x p) ∧ (mergeS x p).come ≠ [] ∧ ∀ r ∈ (mergeS x p).come, r.sn = p.sn := by
  obtain ⟨h1, h2, h3, h4, h5, h6⟩ := h
  obtain ⟨⟨p1, p2⟩, p3, p4⟩ := hp
  have hen : p.en = p.off + p.data.length := rfl
  have hlt : p.off < p.en := by omega
  have hl : (mergeS x p).data.length = max x.data.length (p.off.toNat + p.data.length) := layD_len _ _ _
  have hcome : (mergeS x p).come = unionS p.sn x.come p.off p.en := rfl
  have hnorm : normB (-1) (mergeS x p).come = true := union_norm p.sn x.come (-1) p.off p.en h3 (by omega) hlt
  have hend : endT (mergeS x p).come = max (endT x.come) p.en := end_union h3 p1 hlt
  have hcov : ∀ k : Int, covB k (mergeS x p).come = (decide (p.off ≤ k ∧ k < p.en) || covB k x.come) := fun k => union_cov p.sn k x.come p.off p.en hlt fun r hr => (norm_lt _ _ h3 r hr).2
  refine ⟨⟨h1, ?_, hnorm, ?_, ?_, ?_⟩, ?_, union_sn p.sn x.come p.off p.en⟩
  · have hlen : (mergeS x p).len = if ends p.part = true then p.en else x.len := rfl
    rw [hlen]
    unfold contraB at hc
    by_cases he : ends p.part = true
    · rw [if_pos he] at hc ⊢
      rw [decide_eq_false_iff_not] at hc
      right
      have : ¬ p.en < endT x.come := fun hh => hc (.inr hh)
      omega
    · rw [if_neg he] at hc ⊢
      rw [decide_eq_false_iff_not] at hc
      rcases h2 with h2 | ⟨g1, g2, g3⟩
      · exact .inl h2
      · right
        have : ¬ x.len ≤ p.en := fun hh => hc ⟨by omega, hh⟩
        omega
  · rw [hend, hl]; omega
  · rw [hl]; omega
  · intro k hk hck
    rw [hcov, Bool.or_eq_false_iff, decide_eq_false_iff_not] at hck
    have hd : (mergeS x p).data.getD k 0 = _ := layD_get x.data p.off.toNat p.data k
    rw [hd, if_neg (by omega)]
    by_cases hkd : k < x.data.length
    · exact h6 k hkd hck.2
    · simp [List.getD, List.getElem?_eq_none (by omega : x.data.length ≤ k)]
  · intro e
    have := hcov p.off
    rw [e] at this
    simp [covB, hlt] at this
theorem merge_pa {x : Pa} {p : Pc} (h : Open x) (hs : x.sn = p.sn) (hp : (0 ≤ p.off ∧ p.off ≤ 2054) ∧ 1 ≤ p.data.length ∧ p.off + p.data.length ≤ 2054) (hc : contraB x p = false) (hn : compB (mergeS x p) = false) : paB (mergeS x p) = true := by
  obtain ⟨⟨h1, h2, h3, h4, h5, h6⟩, h7, h8⟩ := merge_open h hp hc
  rw [paB, if_neg (by rw [h1]; decide), Bool.and_eq_true, decide_eq_true_iff]
  refine ⟨⟨h2, h7, h3, fun r hr => ?_, h4, h5, hn⟩, (zero_iff h3 h4).2 h6⟩
  rw [h8 r hr]; exact hs.symm
end Go.Sx
namespace Go.Sx
open Go.Proofs.YtlgolgpellbnbaaGreat
structure Core (s : Rc) : Prop where
  lk : lkOk s.lk
  f : snOk s.lk.bits s.first
  n : snOk s.lk.bits s.next
  u : snOk s.lk.bits s.upto
  half : s.place s.next ≤ 2 ^ (s.lk.bits - 1).toNat
  q : 0 ≤ s.quiet ∧ s.quiet ≤ s.lk.quiet
  all : ∀ x ∈ s.parts, paB x = true ∧ snOk s.lk.bits x.sn ∧ s.place x.sn < s.place s.next
  asc : s.parts.Pairwise fun x y => s.place x.sn < s.place y.sn
  last : ((s.parts.getLast?).map fun x => s.place x.sn).getD (-1) = s.place s.next - 1
def NoFirst (s : Rc) : Prop := ∀ x ∈ s.parts, ¬ (x.done = true ∧ x.sn = s.first)
theorem paFrom_iff {s : Rc} : ∀ {L : List Pa} {last : Int}, paFrom s last L = true ↔ (∀ x ∈ L, paB x = true ∧ snOk s.lk.bits x.sn ∧ last < s.place x.sn ∧ s.place x.sn < s.place s.next ∧ ¬ (x.done = true ∧ x.sn = s.first)) ∧ (L.Pairwise fun x y => s.place x.sn < s.place y.sn) ∧ ((L.getLast?).map fun x => s.place x.sn).getD last = s.place s.next - 1
  | [], last => by simp [paFrom]
  | p :: l, last => by
    have ih := paFrom_iff (s := s) (L := l) (last := s.place p.sn)
    have hl : (((p :: l).getLast?).map fun x => s.place x.sn).getD last = ((l.getLast?).map fun x => s.place x.sn).getD (s.place p.sn) := by
      rw [List.getLast?_cons]
      cases l.getLast? <;> rfl
    rw [hl, List.pairwise_cons]
    simp only [paFrom, Bool.and_eq_true, ih, paAt, decide_eq_true_eq, List.mem_cons, forall_eq_or_imp]
    have hd : (!p.done || !decide (p.sn = s.first)) = true ↔ ¬ (p.done = true ∧ p.sn = s.first) := by
      cases p.done <;> simp
    rw [hd]
    constructor
    · rintro ⟨⟨⟨⟨h1, h2, h3⟩, h4⟩, h5⟩, h6, h7, h8⟩
      exact ⟨⟨⟨h5, h1, h2, h3, h4⟩, fun x hx => ⟨(h6 x hx).1, (h6 x hx).2.1, by have := (h6 x hx).2.2.1; omega, (h6 x hx).2.2.2⟩⟩, ⟨fun x hx => (h6 x hx).2.2.1, h7⟩, h8⟩
    · rintro ⟨⟨⟨h5, h1, h2, h3, h4⟩, h6⟩, ⟨h9, h7⟩, h8⟩
      exact ⟨⟨⟨⟨h1, h2, h3⟩, h4⟩, h5⟩, fun x hx => ⟨(h6 x hx).1, (h6 x hx).2.1, h9 x hx, (h6 x hx).2.2.2⟩, h7, h8⟩
theorem place_ge (s : Rc) (n : Int) : 0 ≤ s.place n := (way_range _ _ _).1
theorem ok_iff {s : Rc} : s.okB = true ↔ Core s ∧ s.place s.upto ≤ s.place s.next ∧ NoFirst s ∧ markB s = true := by
  unfold Rc.okB headB
  simp only [Bool.and_eq_true, decide_eq_true_eq, paFrom_iff]
  constructor
  · rintro ⟨⟨⟨h1, h2, h3, h4, h5, h6, h7, h8⟩, h9, h10, h11⟩, h12⟩
    exact ⟨⟨h1, h2, h3, h4, h5, ⟨h7, h8⟩, fun x hx => ⟨(h9 x hx).1, (h9 x hx).2.1, (h9 x hx).2.2.2.1⟩, h10, h11⟩, h6, fun x hx => (h9 x hx).2.2.2.2, h12⟩
  · rintro ⟨⟨h1, h2, h3, h4, h5, ⟨h7, h8⟩, h9, h10, h11⟩, h6, h13, h12⟩
    exact ⟨⟨⟨h1, h2, h3, h4, h5, h6, h7, h8⟩, fun x hx => ⟨(h9 x hx).1, (h9 x hx).2.1, by have := place_ge s x.sn; omega, (h9 x hx).2.2, h13 x hx⟩, h10, h11⟩, h12⟩
def MarkW (s : Rc) : Prop := (s.mark = -1 → s.left = 0) ∧ (s.mark ≠ -1 → snOk s.lk.bits s.mark ∧ 1 ≤ s.left ∧ s.left ≤ s.lk.wait)
theorem mark_w {s : Rc} (h : markB s = true) : MarkW s := by
  rcases mark_iff.1 h with ⟨h1, h2⟩ | ⟨h1, h2, h3, h4, h5, h6⟩
  · exact ⟨fun _ => h2, fun hh => absurd h1 hh⟩
  · exact ⟨fun hh => absurd hh h1, fun _ => ⟨h2, h5, h6⟩⟩
theorem place_self (s : Rc) : s.place s.first = 0 := by unfold Rc.place way; rw [Int.sub_self, Int.zero_emod]
theorem Core.same {s t : Rc} (h : Core s) (h1 : t.lk = s.lk) (h2 : t.first = s.first) (h3 : t.next = s.next) (h4 : snOk s.lk.bits t.upto) (h5 : 0 ≤ t.quiet ∧ t.quiet ≤ s.lk.quiet) (h6 : t.parts = s.parts) : Core t := by
  have hp : ∀ n, t.place n = s.place n := fun n => by unfold Rc.place; rw [h1, h2]
  refine ⟨by rw [h1]; exact h.lk, by rw [h1, h2]; exact h.f, by rw [h1, h3]; exact h.n, by rw [h1]; exact h4, by rw [hp, h1, h3]; exact h.half, by rw [h1]; exact h5, ?_, ?_, ?_⟩
  · intro x hx; rw [h6] at hx; rw [h1, hp, hp, h3]; exact h.all x hx
  · rw [h6]; exact h.asc.imp fun {a b} hab => by rw [hp, hp]; exact hab
  · rw [h6, hp, h3]
    have : (fun x : Pa => t.place x.sn) = fun x => s.place x.sn := funext fun x => hp x.sn
    rw [this]; exact h.last
theorem start_ok {s : Rc} (h : Core s) (hu : s.place s.upto ≤ s.place s.next) (hf : NoFirst s) (hm : MarkW s) : (startR s).okB = true := by
  obtain ⟨e1, e2, e3, e4, e5, e6, e7⟩ := startR_same s
  have hp : ∀ n, (startR s).place n = s.place n := fun n => by unfold Rc.place; rw [e2, e3]
  refine ok_iff.2 ⟨h.same e2 e3 e4 (by rw [e5]; exact h.u) (by rw [e6]; exact h.q) e1, by rw [hp, hp, e5, e4]; exact hu, fun x hx => by rw [e1] at hx; rw [e3]; exact hf x hx, mark_iff.2 ?_⟩
  obtain ⟨m1, m2⟩ := hm
  have hn0 : s.first ≠ s.next → 1 ≤ s.place s.next := fun hne => by
    have := place_ge s s.next
    rcases Int.lt_or_le 0 (s.place s.next) with h1 | h1
    · omega
    · exact absurd (place_inj h.lk.1 h.f h.n (by rw [place_self]; omega)) hne
  have hp1 : ∀ n, (start1 s).place n = s.place n := fun n => by unfold start1; split <;> rfl
  obtain ⟨t, ht⟩ : ∃ t, t = start1 s := ⟨_, rfl⟩
  have hl := h.lk
  obtain ⟨-, -, -, hw, -, -⟩ := hl
  have ht0 : t.lk = s.lk ∧ t.first = s.first ∧ t.next = s.next := by rw [ht]; unfold start1; split <;> exact ⟨rfl, rfl, rfl⟩
  have htm : (t.mark = -1 ∧ t.left = 0) ∨ (t.mark ≠ -1 ∧ snOk s.lk.bits t.mark ∧ 1 ≤ s.place t.mark ∧ s.place t.mark ≤ s.place s.next ∧ 1 ≤ t.left ∧ t.left ≤ s.lk.wait) := by
    rw [ht]; unfold start1
    by_cases c : s.mark ≠ -1 ∧ (s.place s.mark = 0 ∨ s.place s.mark > s.place s.next)
    · rw [if_pos c]; exact .inl ⟨rfl, rfl⟩
    · rw [if_neg c]
      by_cases c2 : s.mark = -1
      · exact .inl ⟨c2, m1 c2⟩
      · have := place_ge s s.mark
        have c3 : ¬ (s.place s.mark = 0 ∨ s.place s.mark > s.place s.next) := fun hh => c ⟨c2, hh⟩
        obtain ⟨m3, m4, m5⟩ := m2 c2
        exact .inr ⟨c2, m3, by omega, by omega, m4, m5⟩
  have hst : startR s = start2 t := by rw [ht]; rfl
  have hpt : ∀ n, (start2 t).place n = s.place n := fun n => by rw [← hst]; exact hp n
  rw [hst]
  unfold start2
  by_cases c : t.mark = -1 ∧ t.first ≠ t.next
  · rw [if_pos c]
    right
    have h1 := hn0 (by rw [← ht0.2.1, ← ht0.2.2]; exact c.2)
    have hpp : ∀ n, Rc.place { t with mark := t.next, left := t.lk.wait } n = s.place n := fun n => by show way t.lk.bits t.first n = _; rw [ht0.1, ht0.2.1]; rfl
    refine ⟨?_, ?_, ?_, ?_, ?_, ?_⟩
    · show t.next ≠ -1; rw [ht0.2.2]; have := h.n.1; omega
    · show snOk t.lk.bits t.next; rw [ht0.1, ht0.2.2]; exact h.n
    · rw [hpp]; show 1 ≤ s.place t.next; rw [ht0.2.2]; exact h1
    · rw [hpp]; exact Int.le_refl _
    · show 1 ≤ t.lk.wait; rw [ht0.1]; omega
    · exact Int.le_refl _
  · rw [if_neg c]
    have hpp : ∀ n, t.place n = s.place n := fun n => by unfold Rc.place; rw [ht0.1, ht0.2.1]
    rcases htm with h1 | ⟨h1, h2, h3, h4, h5, h6⟩
    · exact .inl h1
    · exact .inr ⟨h1, by rw [ht0.1]; exact h2, by rw [hpp]; exact h3, by rw [hpp, hpp, ht0.2.2]; exact h4, h5, by rw [ht0.1]; exact h6⟩
theorem poll_ok {s : Rc} {p : Pc} (h : s.okB = true) : (pollR s p).okB = true := by
  obtain ⟨hc, hu, hf, hm⟩ := ok_iff.1 h
  unfold pollR
  split
  · exact ok_iff.2 ⟨hc.same rfl rfl rfl hc.n hc.q rfl, Int.le_refl _, hf, hm⟩
  · exact h
end Go.Sx
namespace Go.Sx
open Go.Proofs.YtlgolgpellbnbaaGreat
theorem place_one {s : Rc} {x : Int} {l : List Pa} (hb : bitsOk s.lk.bits) (hf : snOk s.lk.bits s.first) (hx : snOk s.lk.bits x) (h : 1 ≤ s.place x) : Rc.place { s with first := s.behind s.first, parts := l } x = s.place x - 1 := by
  show way s.lk.bits (s.behind s.first) x = way s.lk.bits s.first x - 1
  have h : 1 ≤ way s.lk.bits s.first x := h
  unfold Rc.behind
  unfold way snOk at *
  rcases pow_bits hb with e | e | e | e | e <;> rw [e] at hf hx h ⊢ <;> omega
theorem behind_ok {s : Rc} (hb : bitsOk s.lk.bits) (n : Int) : snOk s.lk.bits (s.behind n) := by
  unfold Rc.behind snOk
  rcases pow_bits hb with e | e | e | e | e <;> rw [e] <;> omega
theorem place_behind {s : Rc} {n : Int} (hb : bitsOk s.lk.bits) (hf : snOk s.lk.bits s.first) (hn : snOk s.lk.bits n) (h : s.place n < 2 ^ (s.lk.bits - 1).toNat) : s.place (s.behind n) = s.place n + 1 := by
  have h1 := (pow_bits1 hb).1
  unfold Rc.behind Rc.place way snOk at *
  rcases pow_bits hb with e | e | e | e | e <;> rw [e] at hf hn h h1 ⊢ <;> omega
theorem drop_one {s : Rc} {p : Pa} {l : List Pa} (h : Core s) (hp : s.parts = p :: l) (hf : p.sn = s.first) : Core { s with first := s.behind s.first, parts := l } := by
  have hb := h.lk.1
  have h0 : s.place p.sn = 0 := by rw [hf]; exact place_self s
  have hall := h.all
  have hasc := h.asc
  have hlast := h.last
  rw [hp] at hall hasc hlast
  rw [List.pairwise_cons] at hasc
  have hn1 : 1 ≤ s.place s.next := by have := (hall p (by simp)).2.2; omega
  have hpl : ∀ x ∈ l, Rc.place { s with first := s.behind s.first, parts := l } x.sn = s.place x.sn - 1 := fun x hx => place_one hb h.f (hall x (by simp [hx])).2.1 (by have := hasc.1 x hx; omega)
  have hpn : Rc.place { s with first := s.behind s.first, parts := l } s.next = s.place s.next - 1 := place_one hb h.f h.n hn1
  refine ⟨h.lk, behind_ok hb _, h.n, h.u, ?_, h.q, ?_, ?_, ?_⟩
  · show Rc.place { s with first := s.behind s.first, parts := l } s.next ≤ 2 ^ (s.lk.bits - 1).toNat
    rw [hpn]; have := h.half; omega
  · intro x hx
    have h2 := hall x (by simp [show x ∈ l from hx])
    refine ⟨h2.1, h2.2.1, ?_⟩
    show Rc.place { s with first := s.behind s.first, parts := l } x.sn < Rc.place { s with first := s.behind s.first, parts := l } s.next
    rw [hpl x hx, hpn]; have := h2.2.2; omega
  · exact hasc.2.imp_of_mem fun {x y} hx hy hxy => by rw [hpl x hx, hpl y hy]; omega
  · show ((l.getLast?).map fun x => Rc.place { s with first := s.behind s.first, parts := l } x.sn).getD (-1) = Rc.place { s with first := s.behind s.first, parts := l } s.next - 1
    rw [hpn]
    rw [List.getLast?_cons] at hlast
    cases hg : l.getLast? with
    | none =>
      rw [hg] at hlast
      simp only [Option.getD_none, Option.map_some, Option.getD_some] at hlast
      simp only [Option.map_none, Option.getD_none]; omega
    | some x =>
      rw [hg] at hlast
      simp only [Option.getD_some, Option.map_some] at hlast
      simp only [Option.map_some, Option.getD_some]
      rw [hpl x (List.mem_of_getLast? hg)]; omega
theorem adv1_ok : ∀ (l : List Pa) (s : Rc), s.parts = l → Core s → Core (adv1 s) ∧ NoFirst (adv1 s)
  | [], s, hs, h => by
    have e : adv1 s = s := by
      unfold adv1; rw [hs]
      show ({ s with first := s.first, parts := [] } : Rc) = s
      rw [← hs]
    rw [e]
    exact ⟨h, fun x hx => by rw [hs] at hx; simp at hx⟩
  | p :: l, s, hs, h => by
    by_cases c : p.sn = s.first ∧ p.done = true
    · have e : adv1 s = adv1 { s with first := s.behind s.first, parts := l } := by
        unfold adv1; rw [hs, dropS, if_pos c]; rfl
      rw [e]
      exact adv1_ok l _ rfl (drop_one h hs c.1)
    · have e : adv1 s = s := by
        unfold adv1; rw [hs, dropS, if_neg c]
        show ({ s with first := s.first, parts := p :: l } : Rc) = s
        rw [← hs]
      rw [e]
      refine ⟨h, fun x hx => ?_⟩
      have hasc := h.asc
      rw [hs] at hx hasc
      rw [List.pairwise_cons] at hasc
      rcases List.mem_cons.1 hx with rfl | hx
      · exact fun hh => c ⟨hh.2, hh.1⟩
      · intro hh
        have h1 := hasc.1 x hx
        rw [hh.2, place_self] at h1
        have := place_ge s p.sn
        omega
theorem adv_ok {s : Rc} (h : Core s) : Core (advS s) ∧ (advS s).place (advS s).upto ≤ (advS s).place (advS s).next ∧ NoFirst (advS s) := by
  obtain ⟨h1, h2⟩ := adv1_ok _ s rfl h
  have e : advS s = adv2 (adv1 s) := rfl
  rw [e]
  obtain ⟨t, ht⟩ : ∃ t, t = adv1 s := ⟨_, rfl⟩
  rw [← ht] at h1 h2 ⊢
  unfold adv2
  by_cases c : t.place t.upto > t.place t.next
  · rw [if_pos c]
    refine ⟨h1.same rfl rfl rfl h1.f h1.q rfl, ?_, h2⟩
    show t.place t.first ≤ t.place t.next
    rw [place_self]; exact place_ge t t.next
  · rw [if_neg c]
    exact ⟨h1, by omega, h2⟩
theorem while_split {α : Type} (q : α → Bool) : ∀ l : List α, (∀ x ∈ l.take (l.takeWhile q).length, q x = true) ∧ ∀ x, (l.drop (l.takeWhile q).length).head? = some x → q x = false
  | [] => ⟨fun x hx => by simp at hx, fun x hx => by simp at hx⟩
  | y :: l => by
    obtain ⟨h1, h2⟩ := while_split q l
    cases hy : q y with
    | false =>
      simp only [List.takeWhile_cons, hy]
      exact ⟨fun x hx => by simp at hx, fun x hx => by simp at hx; rw [← hx]; exact hy⟩
    | true =>
      simp only [List.takeWhile_cons, hy, if_true, List.length_cons, List.take_succ_cons, List.drop_succ_cons]
      refine ⟨fun x hx => ?_, h2⟩
      rcases List.mem_cons.1 hx with rfl | hx
      · exact hy
      · exact h1 x hx
theorem at_split {s : Rc} (h : Core s) {n : Int} (hn : snOk s.lk.bits n) :
    (∀ x ∈ s.parts.take (atP s n), s.place x.sn < s.place n) ∧ ((foundB s n = false ∧ ∀ x ∈ s.parts.drop (atP s n), s.place n < s.place x.sn) ∨
      ∃ y l, foundB s n = true ∧ s.parts.drop (atP s n) = y :: l ∧ s.parts[atP s n]? = some y ∧ y.sn = n ∧ ∀ x ∈ l, s.place n < s.place x.sn) := by
  obtain ⟨h1, h2⟩ := while_split (fun p : Pa => decide (s.place p.sn < s.place n)) s.parts
  refine ⟨fun x hx => of_decide_eq_true (h1 x hx), ?_⟩
  have hasc := h.asc.drop (i := atP s n)
  have h2 : ∀ x, (s.parts.drop (atP s n)).head? = some x → s.place n ≤ s.place x.sn := fun x hx => by have := of_decide_eq_false (h2 x hx); omega
  have hgd : s.parts[atP s n]? = (s.parts.drop (atP s n)).head? := by rw [List.head?_drop]
  cases hd : s.parts.drop (atP s n) with
  | nil =>
    left
    refine ⟨?_, fun x hx => by simp at hx⟩
    unfold foundB; rw [hgd, hd]; rfl
  | cons y l =>
    rw [hd] at hasc h2 hgd
    rw [List.pairwise_cons] at hasc
    have h3 := h2 y rfl
    have hy : y ∈ s.parts := List.mem_of_mem_drop (i := atP s n) (by rw [hd]; simp)
    by_cases c : y.sn = n
    · right
      refine ⟨y, l, ?_, rfl, hgd, c, fun x hx => ?_⟩
      · unfold foundB; rw [hgd]; exact decide_eq_true c
      · have := hasc.1 x hx; rw [c] at this; exact this
    · left
      have h4 : s.place n ≠ s.place y.sn := fun e => c (place_inj h.lk.1 (h.all y hy).2.1 hn e.symm)
      refine ⟨?_, fun x hx => ?_⟩
      · unfold foundB; rw [hgd]; exact decide_eq_false c
      · rcases List.mem_cons.1 hx with rfl | hx
        · omega
        · have := hasc.1 x hx; omega
theorem last_app {A : List Pa} {y : Pa} {B : List Pa} : (A ++ y :: B).getLast? = some (B.getLast?.getD y) := by
  rw [List.getLast?_append, List.getLast?_cons]; rfl
theorem put_core {s : Rc} {p : Pc} (h : Core s) (hp : p.ok s.lk.bits) (hr : refusedS s p = 0) : Core (putP s p) := by
  obtain ⟨hb, hsn, -, -, -, hpo, hpd, hpe⟩ := hp
  have hsn : snOk s.lk.bits p.sn := hsn
  have hp3 : (0 ≤ p.off ∧ p.off ≤ 2054) ∧ 1 ≤ p.data.length ∧ p.off + p.data.length ≤ 2054 := ⟨hpo, hpd, hpe⟩
  have hold : s.place p.sn < 2 ^ (s.lk.bits - 1).toNat := by
    unfold refusedS at hr
    split at hr
    · cases hr
    · omega
  have hold' : ¬ s.place p.sn ≥ 2 ^ (s.lk.bits - 1).toNat := by omega
  obtain ⟨hA, hsp⟩ := at_split h hsn
  obtain ⟨A, hAe⟩ : ∃ A, A = s.parts.take (atP s p.sn) := ⟨_, rfl⟩
  have hpl : s.parts = A ++ s.parts.drop (atP s p.sn) := by rw [hAe, List.take_append_drop]
  have hkl : atP s p.sn ≤ s.parts.length := by
    have := congrArg List.length (List.takeWhile_append_dropWhile (p := fun p' : Pa => decide (s.place p'.sn < s.place p.sn)) (l := s.parts))
    rw [List.length_append] at this
    show (s.parts.takeWhile _).length ≤ _
    omega
  have hAl : A.length = atP s p.sn := by rw [hAe, List.length_take]; omega
  obtain ⟨y', hy'⟩ : ∃ y', y' = if compB (mergedS s p) then donePa p.sn else mergedS s p := ⟨_, rfl⟩
  have hput : (putP s p).parts = (insS s p).set (atP s p.sn) y' := by rw [hy']; rfl
  have key : ∃ (x : Pa) (B : List Pa), Open x ∧ x.sn = p.sn ∧ contraB x p = false ∧ mergedS s p = mergeS x p ∧ (putP s p).parts = A ++ y' :: B ∧ (∀ z ∈ B, z ∈ s.parts ∧ s.place p.sn < s.place z.sn) ∧ (B.Pairwise fun x y => s.place x.sn < s.place y.sn) ∧
      (B = [] → s.place p.sn ≥ s.place s.next ∨ s.place p.sn = s.place s.next - 1) ∧ (B ≠ [] → B.getLast? = s.parts.getLast?) := by
    have hascd := h.asc.drop (i := atP s p.sn)
    have hlast := h.last
    rcases hsp with ⟨hf, hB⟩ | ⟨y, B, hf, hd, hg, hysn, hB⟩
    · have hi : insS s p = A ++ newPa p.sn :: s.parts.drop (atP s p.sn) := by rw [insS, if_neg (by rw [hf]; decide), hAe]
      refine ⟨newPa p.sn, s.parts.drop (atP s p.sn), open_new _, rfl, contra_new _ _ (by show 1 ≤ p.off + p.data.length; omega), ?_, ?_, fun z hz => ⟨List.mem_of_mem_drop hz, hB z hz⟩, hascd, fun hn => ?_, fun hn => ?_⟩
      · unfold mergedS; rw [hi, List.getElem?_append_right (by omega), hAl, Nat.sub_self]; rfl
      · rw [hput, hi, List.set_append_right _ _ (by omega), hAl, Nat.sub_self]; rfl
      · left
        rw [hn, List.append_nil] at hpl
        rw [hpl] at hlast
        cases hg : A.getLast? with
        | none =>
          rw [hg] at hlast
          simp only [Option.map_none, Option.getD_none] at hlast
          have := place_ge s p.sn; omega
        | some x =>
          rw [hg] at hlast
          simp only [Option.map_some, Option.getD_some] at hlast
          have := hA x (by rw [← hAe]; exact List.mem_of_getLast? hg)
          omega
      · rw [hpl, List.getLast?_append]
        rw [List.drop_append, hAl, Nat.sub_self, List.drop_zero, List.drop_of_length_le (by omega), List.nil_append]
        cases hg : (s.parts.drop (atP s p.sn)).getLast? with
        | none => exact absurd (List.getLast?_eq_none_iff.1 hg) hn
        | some x => rfl
    · have hi : insS s p = A ++ y :: B := by rw [insS, if_pos hf, hpl, hd]
      rw [hd, List.pairwise_cons] at hascd
      have hym : y ∈ s.parts := List.mem_of_getElem? hg
      have hr2 := hr
      unfold refusedS at hr2
      rw [if_neg hold', hg] at hr2
      dsimp only at hr2
      rw [if_pos hysn] at hr2
      have hyd : y.done = false := by
        cases hyd : y.done with
        | false => rfl
        | true => rw [hyd] at hr2; simp at hr2
      rw [if_neg (by rw [hyd]; decide)] at hr2
      have hyc : contraB y p = false := by
        cases hyc : contraB y p with
        | false => rfl
        | true => rw [hyc] at hr2; simp at hr2
      refine ⟨y, B, open_of hyd (h.all y hym).1, hysn, hyc, ?_, ?_, fun z hz => ⟨List.mem_of_mem_drop (i := atP s p.sn) (by rw [hd]; simp [hz]), hB z hz⟩, hascd.2, fun hn => ?_, fun hn => ?_⟩
      · unfold mergedS; rw [hi, List.getElem?_append_right (by omega), hAl, Nat.sub_self]; rfl
      · rw [hput, hi, List.set_append_right _ _ (by omega), hAl, Nat.sub_self]; rfl
      · right
        rw [hn] at hd
        rw [hpl, hd, last_app] at hlast
        simp only [List.getLast?_nil, Option.getD_none, Option.map_some, Option.getD_some, hysn] at hlast
        exact hlast
      · rw [hpl, hd, last_app]
        cases hg2 : B.getLast? with
        | none => exact absurd (List.getLast?_eq_none_iff.1 hg2) hn
        | some x => rfl
  obtain ⟨x, B, hox, hxs, hxc, hmg, hparts, hBm, hBa, hB0, hB1⟩ := key
  have hys : y'.sn = p.sn := by
    rw [hy']
    split
    · rfl
    · rw [hmg]; exact hxs
  have hyp : paB y' = true := by
    rw [hy']
    by_cases hc : compB (mergedS s p) = true
    · rw [if_pos hc]; rfl
    · rw [if_neg hc, hmg]
      exact merge_pa hox hxs hp3 hxc (by rw [← hmg]; simpa using hc)
  have hpl2 : ∀ n, (putP s p).place n = s.place n := fun _ => rfl
  have hnx : (putP s p).next = if s.place p.sn ≥ s.place s.next then s.behind p.sn else s.next := rfl
  have hpn : s.place (putP s p).next = if s.place p.sn ≥ s.place s.next then s.place p.sn + 1 else s.place s.next := by
    rw [hnx]
    split
    · exact place_behind hb h.f hsn hold
    · rfl
  have hge : s.place s.next ≤ s.place (putP s p).next := by rw [hpn]; split <;> omega
  have hge2 : s.place p.sn < s.place (putP s p).next := by rw [hpn]; split <;> omega
  refine ⟨h.lk, h.f, ?_, h.u, ?_, h.q, ?_, ?_, ?_⟩
  · show snOk s.lk.bits (putP s p).next
    rw [hnx]
    split
    · exact behind_ok hb _
    · exact h.n
  · show s.place (putP s p).next ≤ 2 ^ (s.lk.bits - 1).toNat
    have := h.half
    rw [hpn]; split <;> omega
  · intro z hz
    rw [hparts] at hz
    show paB z = true ∧ snOk s.lk.bits z.sn ∧ s.place z.sn < s.place (putP s p).next
    rcases List.mem_append.1 hz with hz | hz
    · have := h.all z (by rw [hpl]; exact List.mem_append_left _ hz)
      exact ⟨this.1, this.2.1, by omega⟩
    · rcases List.mem_cons.1 hz with rfl | hz
      · exact ⟨hyp, by rw [hys]; exact hsn, by rw [hys]; exact hge2⟩
      · have := h.all z (hBm z hz).1
        exact ⟨this.1, this.2.1, by omega⟩
  · show (putP s p).parts.Pairwise fun x y => s.place x.sn < s.place y.sn
    rw [hparts, List.pairwise_append]
    refine ⟨?_, List.pairwise_cons.2 ⟨fun z hz => ?_, hBa⟩, fun z hz u hu => ?_⟩
    · have := h.asc.take (i := atP s p.sn); rwa [← hAe] at this
    · rw [hys]; exact (hBm z hz).2
    · have h1 := hA z (by rw [← hAe]; exact hz)
      rcases List.mem_cons.1 hu with rfl | hu
      · rw [hys]; exact h1
      · have := (hBm u hu).2; omega
  · show (((putP s p).parts.getLast?).map fun x => s.place x.sn).getD (-1) = s.place (putP s p).next - 1
    rw [hparts, last_app, hpn]
    simp only [Option.map_some, Option.getD_some]
    by_cases hBe : B = []
    · rw [hBe]
      simp only [List.getLast?_nil, Option.getD_none, hys]
      rcases hB0 hBe with h1 | h1
      · rw [if_pos h1]; omega
      · rw [if_neg (by omega)]; omega
    · have h1 := hB1 hBe
      cases hg : B.getLast? with
      | none => rw [List.getLast?_eq_none_iff] at hg; exact absurd hg hBe
      | some z =>
        have hl := h.last
        rw [← h1, hg] at hl
        simp only [Option.map_some, Option.getD_some] at hl
        have := (hBm z (List.mem_of_getLast? hg)).2
        rw [if_neg (by omega)]
        simp only [Option.getD_some]
        exact hl
theorem rec_ok {s : Rc} {bs : List Int} (h : s.okB = true) (hg : ∀ b bs, (decP b bs).2 = 0 → (decP b bs).1.ok b) : (recS s bs).1.okB = true := by
  obtain ⟨hc, hu, hf, hm⟩ := ok_iff.1 h
  unfold recS
  rw [if_neg (by rw [h]; decide)]
  dsimp only
  by_cases h2 : (decP s.lk.bits bs).2 ≠ 0
  · rw [if_pos h2]; exact h
  rw [if_neg h2]
  by_cases h3 : refusedS s (decP s.lk.bits bs).1 ≠ 0
  · rw [if_pos h3]; exact poll_ok h
  rw [if_neg h3]
  refine poll_ok ?_
  have hk := put_core hc (hg _ _ (by simpa using h2)) (by simpa using h3)
  obtain ⟨a1, a2, a3⟩ := adv_ok hk
  refine start_ok a1 a2 a3 ?_
  have hw := mark_w hm
  have e : ∀ t : Rc, (advS t).mark = t.mark ∧ (advS t).left = t.left ∧ (advS t).lk = t.lk := fun t => by unfold advS adv2; split <;> exact ⟨rfl, rfl, rfl⟩
  obtain ⟨e1, e2, e3⟩ := e (putP s (decP s.lk.bits bs).1)
  unfold MarkW
  rw [e1, e2, e3]
  exact hw
end Go.Sx
namespace Go.Proofs.YtlgolgpellbnbaaGreat
open Go.Sx Go.RowKit

theorem roll_Light_ct {t_a : Option Addr} {t_l : Nat} {t_c : Nat} {w : World} :
    Calls Tryz.prog N_roll_Light #[(.slice t_a t_l t_c)] w fun e w' => e = .returned (.bool (decide ((t_l : Int) ≤ (300 : Int)))) ∧ Below w.heap.size w w' := by
  apply F_roll_Light_ok
  unfold F_roll_Light
  exact ⟨rfl, .refl _ _⟩
def modR (n m : Int) : Int := if m < 1 then 0 else n % m
theorem modR_range (n m : Int) (h : 1 ≤ m) : 0 ≤ modR n m ∧ modR n m < m := by
  unfold modR
  rw [if_neg (by omega)]
  exact ⟨Int.emod_nonneg _ (by omega), Int.emod_lt_of_pos _ (by omega)⟩
theorem roll_Mod_ct (n m : Int) (hm : m ≤ 1000000000000) {w : World} : Calls Tryz.prog N_roll_Mod #[.int .i64 n, .int .i64 m] w fun e w' => e = .returned (.int .i64 (modR n m)) ∧ Below w.heap.size w w' := by
  apply F_roll_Mod_ok
  unfold F_roll_Mod
  refine bsplit_dec (fun h => ?_) (fun h => ⟨by omega, ?_⟩)
  · exact ⟨by rw [modR, if_pos h], .refl _ _⟩
  have e1 : modR n m = n % m := by rw [modR, if_neg h]
  have h1 := Int.emod_nonneg n (show m ≠ 0 by omega)
  have h2 := Int.emod_lt_of_pos n (show 0 < m by omega)
  have e2 := @Int.tmod_eq_emod n m
  have e3 : (m.natAbs : Int) = m := by omega
  have e4 : n.tmod m = n % m ∨ n.tmod m = n % m - m := by
    split at e2 <;> omega
  refine kLet_in ?_
  refine kW_i64 (by omega) ?_
  refine ⟨by omega, ?_⟩
  refine kTmod (by omega) ?_
  refine ⟨?_, .refl _ _⟩
  rw [e1]
  rcases e4 with e | e
  · rw [e, Int.add_emod_right, Int.emod_emod_of_dvd _ (Int.dvd_refl m)]
  · rw [e, show n % m - m + m = n % m by omega, Int.emod_emod_of_dvd _ (Int.dvd_refl m)]

abbrev rdice (g : Nat) (a : Option Addr) (c : Nat) (ts : List Int) (p : Nat) : Res := .blk g Ty_radiolinkroll_Dice [.slice a ts.length c, .int .i64 (p : Int)]
def Rolls (a : Option Addr) (ts : List Int) (P : World → Prop) : Prop := (∀ w, P w → SlR (IntC .i64) 1 w a ts) ∧ ts.length ≤ 1000000
theorem Rolls.and {a : Option Addr} {ts : List Int} {P : World → Prop} (h : Rolls a ts P) (Q : World → Prop) : Rolls a ts fun w => Q w ∧ P w := ⟨fun w k => h.1 w k.2, h.2⟩
theorem roll_Roll_ct {a : Option Addr} {c : Nat} {ts : List Int} {w : World} (hs : SlR (IntC .i64) 1 w a ts) (hl : ts.length ≤ 1000000) :
    Calls Tryz.prog N_roll_Roll #[(.slice a ts.length c)] w fun e w' => ∃ g a' c', e = .returned (.pointer (some ⟨g, 0, none⟩)) ∧ St (fun _ => False) [] w w' [rdice g a' c' ts 0] (fun w => SlR (IntC .i64) 1 w a' ts) := by
  apply F_roll_Roll_ok
  unfold F_roll_Roll
  have H := St.nil w
  refine H.alloc ?_; clear H; intro b w1 H1
  have H1 := H1.litI (i := 0) (k := .i64) [] rfl (by decide)
  refine H1.appI (i := 0) rfl sl_Ty_S_int (hs.below H1.below) (by simp; omega) (by simp; omega) ?_; intro x_a x_c w2 H2
  rw [List.nil_append] at H2 ⊢
  refine H2.alloc ?_; clear H2; intro b1 w3 H3
  have H3 := H3.shareI (i := 0) rfl
  refine ⟨b1, x_a, x_c, rfl, (H3.sub (fun _ => 1) ?_ ?_).imp fun _ h => h.1⟩
  · rintro (_ | _) r h <;> first | exact h | cases h
  · intro i j hi hj _; simp only [List.length_cons, List.length_nil] at hi hj; omega
section
variable {g : Nat} {a : Option Addr} {c : Nat} {ts : List Int} {p : Nat} {w : World} {A : Nat → Prop} {P : World → Prop}
theorem roll_Next_ct (hP : Held A w P) (hts : Rolls a ts P) (hB : (rdice g a c ts p).ok w) (hn : ∀ b, (rdice g a c ts p).at = some b → ¬ A b) (hp : p ≤ ts.length) {n : Int} (hn2 : n ≤ 1000000000000) :
    Calls Tryz.prog N_roll_Dice_Next #[(.pointer (some ⟨g, 0, none⟩)), (.int .i64 n)] w fun e w' => ∃ v p', e = .returned (.int .i64 v) ∧ (1 ≤ n → 0 ≤ v ∧ v < n) ∧ p' ≤ ts.length ∧ St A [g] w w' [rdice g a c ts p'] P := by
  apply F_roll_Dice_Next_ok
  unfold F_roll_Dice_Next
  have hlen := hts.2
  have H : St A [g] w w [rdice g a c ts p] P := St.startM hP hB hn
  refine H.drew ?_; clear H; intro w1 H1
  refine H1.ld (i := 0) rfl rfl ?_
  refine H1.ldS (i := 0) rfl rfl ?_
  refine bsplit_dec (fun c => ?_) (fun c => ?_)
  · exact ⟨0, p, rfl, fun h => by omega, hp, H1⟩
  · refine H1.ld (i := 0) rfl rfl ?_
    refine kW_i64 (by omega) ?_
    refine H1.set (i := 0) rfl (by simp) ?_; clear H1; intro w2 H2
    refine H2.drew ?_; clear H2; intro w3 H3
    have hs := hts.1 _ H3.get
    obtain ⟨q, rfl, hq⟩ := hs.get (i := p) (by omega)
    refine ⟨(· < w3.heap.size), ?_⟩
    refine H3.ldS (i := 0) rfl rfl ?_
    refine H3.ld (i := 0) rfl rfl ?_
    refine kW_i64 (by omega) ?_
    have e1 : ((p : Int) + 1 - 1).toNat = p := by omega
    refine ⟨q, rfl, ⟨by omega, by omega⟩, ?_⟩
    rw [e1]
    refine ⟨ts[p], hq, ?_⟩
    refine (roll_Mod_ct _ _ hn2).mono ?_
    rintro _ w4 ⟨rfl, hb4⟩; have H4 := H3.pass hb4
    refine ⟨_, rfl, ?_⟩
    refine ⟨hb4.keeps, ?_⟩
    exact ⟨_, p + 1, rfl, fun h => modR_range _ _ h, by omega, H4⟩
end
section
variable {A0 : Nat → Prop} {M : List Nat} {w0 w : World} {R : List Res} {P : World → Prop} {i g : Nat} {a : Option Addr} {c : Nat} {ts : List Int} {p : Nat}
theorem rNext (H : St A0 M w0 w R P) (hi : R[i]? = some (rdice g a c ts p)) (hts : Rolls a ts P) (hp : p ≤ ts.length) {n : Int} (hn : n ≤ 1000000000000) {K : Int → World → Prop}
    (h : ∀ v p' w', Fr [g] w w' → (1 ≤ n → 0 ≤ v ∧ v < n) → p' ≤ ts.length → St A0 M w0 w' (R.set i (rdice g a c ts p')) P → K v w') :
    Calls Tryz.prog N_roll_Dice_Next #[(.pointer (some ⟨g, 0, none⟩)), (.int .i64 n)] w fun e w' => ∃ r : Int, e = .returned (.int .i64 r) ∧ K r w' := by
  obtain ⟨A, hA, hn', hr, hc⟩ := H.callM hi
  refine (roll_Next_ct hA hts hr hn' hp hn).mono ?_
  rintro _ w2 ⟨v, p', rfl, hv, hp', S⟩
  have := hc S
  rw [List.append_nil] at this
  exact ⟨v, rfl, h v p' w2 S.fr hv hp' (this.imp fun _ h => h.2)⟩
end
section
variable {g : Nat} {a : Option Addr} {c : Nat} {ts : List Int} {p : Nat} {w : World} {A : Nat → Prop} {P : World → Prop}
theorem roll_Bytes_ct (hP : Held A w P) (hts : Rolls a ts P) (hB : (rdice g a c ts p).ok w) (hn : ∀ b, (rdice g a c ts p).at = some b → ¬ A b) (hp : p ≤ ts.length) (m : Nat) (hm : m ≤ 1000000) :
    Calls Tryz.prog N_roll_Dice_Bytes #[(.pointer (some ⟨g, 0, none⟩)), (.int .i64 (m : Int))] w fun e w' => ∃ ra rc bs p', e = .returned (.slice ra bs.length rc) ∧ Bytes bs ∧ bs.length = m ∧ p' ≤ ts.length ∧
      St A [g] w w' [rdice g a c ts p', .ints Ty_uint8 .u8 ra rc bs] P := by
  apply F_roll_Dice_Bytes_ok
  unfold F_roll_Dice_Bytes
  have H : St A [g] w w [rdice g a c ts p] P := St.startM hP hB hn
  refine H.makeI m rfl rfl (by omega) (by omega) fun b w1 _ H1 => ?_
  refine rNext H1 (i := 0) rfl hts hp (by omega) fun r p1 w2 _ hr hp1 H2 => ?_
  have hr := hr (by omega)
  clear H H1
  simp only [List.cons_append, List.nil_append, List.set_cons_zero] at H2
  have hz : Bytes (List.replicate m 0) := fun i hi => by simp
  refine ⟨fun i => ((m - i).toNat, fun w3 => ∃ (k : Nat) (bs : List Int), i = k ∧ k ≤ m ∧ bs.length = m ∧ Bytes bs ∧ St A [g] w w3 [rdice g a c ts p1, .row Ty_uint8 1 (some ⟨b, 0, none⟩) m m (bs.map (Value.int .u8))] P), ⟨0, List.replicate m 0, rfl, by omega, by simp, hz, by simpa [Res.ints] using H2⟩, ?_⟩
  clear H2
  rintro _ i w3 ⟨k, bs, rfl, hk, hl, hb, H3⟩
  refine bsplit_dec (fun c => ?_) (fun c => ?_)
  · have h1 : (k : Int) * (r + 7) ≤ 1000000 * 263 := Int.mul_le_mul (by omega) (by omega) (by omega) (by omega)
    have h2 : 0 ≤ (k : Int) * (r + 7) := Int.mul_nonneg (by omega) (by omega)
    refine kW_i64 (by omega) ?_
    refine kW_i64 (by omega) ?_
    refine kW_i64 (by omega) ?_
    refine kWu8 ?_
    refine kIx_at ⟨by omega, by omega⟩ ?_
    rw [add_mk, Nat.zero_add, Nat.mul_one, Int.toNat_natCast]
    refine H3.setRow (i := 1) rfl (by omega) fun w4 _ H4 => ?_
    refine kW_i64 (by omega) ?_
    refine ⟨⟨k + 1, bs.set k ((r + (k : Int) * (r + 7)) % 256), by omega, by omega, by simp [hl], ?_, by rw [List.map_set]; exact H4⟩, by dsimp only; omega⟩
    intro j hj
    rw [List.getElem_set]; split
    · omega
    · exact hb j (by simpa using hj)
  · have e : Res.row Ty_uint8 1 (some ⟨b, 0, none⟩) m m (bs.map (Value.int .u8)) = .ints Ty_uint8 .u8 (some ⟨b, 0, none⟩) m bs := by simp [Res.ints, hl]
    rw [e] at H3
    refine ⟨_, m, bs, p1, ?_, hb, hl, hp1, H3⟩
    rw [hl, Int.toNat_natCast]
end
section
variable {A0 : Nat → Prop} {M : List Nat} {w0 w : World} {R : List Res} {P : World → Prop} {i g : Nat} {a : Option Addr} {c : Nat} {ts : List Int} {p : Nat}
theorem rBytes (H : St A0 M w0 w R P) (hi : R[i]? = some (rdice g a c ts p)) (hts : Rolls a ts P) (hp : p ≤ ts.length) (m : Nat) (hm : m ≤ 1000000) {x : Int} (hx : x = m) {K : Option Addr → Nat → Nat → World → Prop}
    (h : ∀ ra rc bs p' w', Bytes bs → bs.length = m → p' ≤ ts.length → St A0 M w0 w' (R.set i (rdice g a c ts p') ++ [.ints Ty_uint8 .u8 ra rc bs]) P → K ra bs.length rc w') :
    Calls Tryz.prog N_roll_Dice_Bytes #[(.pointer (some ⟨g, 0, none⟩)), (.int .i64 x)] w fun e w' => ∃ (ra : Option Addr) (rl rc : Nat), e = .returned (.slice ra rl rc) ∧ K ra rl rc w' := by
  subst hx
  obtain ⟨A, hA, hn', hr, hc⟩ := H.callM hi
  refine (roll_Bytes_ct hA hts hr hn' hp m hm).mono ?_
  rintro _ w2 ⟨ra, rc, bs, p', rfl, h1, h2, hp', S⟩
  exact ⟨_, _, _, rfl, h _ _ bs p' w2 h1 h2 hp' ((hc S).imp fun _ h => h.2)⟩
end
end Go.Proofs.YtlgolgpellbnbaaGreat
namespace Go.Sx
theorem idx_le {α : Type} {p : α → Bool} {l : List α} {j : Nat} (hj : j < l.length) (hp : p l[j] = true) : idx p l ≤ j := by
  unfold idx
  cases h : l.findIdx? p with
  | none => show (-1 : Int) ≤ j; omega
  | some i =>
    obtain ⟨hi, _, h2⟩ := List.findIdx?_eq_some_iff_getElem.1 h
    show (i : Int) ≤ j
    rcases Nat.lt_or_ge j i with h3 | h3
    · exact absurd hp (h2 j h3)
    · omega
end Go.Sx
namespace Go.Proofs.YtlgolgpellbnbaaGreat
open Go.Sx Go.RowKit
set_option maxRecDepth 100000
section
variable {A0 : Nat → Prop} {M : List Nat} {w0 w : World} {R : List Res} {P : World → Prop}
theorem deleteFunc_ct (H : St A0 M w0 w R P) {i : Nat} {a : Option Addr} {c del : Nat} {ff fc : Array Value} {L : List PP} (hi : R[i]? = some (.els encPP Ty_api_Partial 5 a c L)) (hl : L.length ≤ 1000000) (hpa : PaR w a (L.map (·.p))) (p : Pa → Bool) (hok : okFn Tryz.prog del = true)
    (hf : ∀ {w' : World} {L' : List PP} {T : List Res} (x : Pa) (a1 : Option Addr) (c1 : Nat) (a2 : Option Addr) (c2 : Nat), St A0 M w0 w' (R.set i (.els encPP Ty_api_Partial 5 a c L') ++ T) P → x ∈ L.map (·.p) →
      Calls Tryz.prog del (ff ++ #[aggPa x a1 c1 a2 c2] ++ fc) w' fun e w'' => e = .returned (.bool (p x)) ∧ Below w'.heap.size w' w'')
    {F : Ending → World → Prop} (h : ∀ w', St A0 M w0 w' (R.set i (.els encPP Ty_api_Partial 5 a c (L.filter fun y => !p y.p))) P → F (.returned (.slice a (L.filter fun y => !p y.p).length c)) w') :
    Calls Tryz.prog N_slices_DeleteFunc_Sapi_Partial_api_Partial #[.slice a L.length c, .func (.func del) ff fc] w F := by
  apply F_slices_DeleteFunc_Sapi_Partial_api_Partial_ok
  unfold F_slices_DeleteFunc_Sapi_Partial_api_Partial
  have hset : R.set i (.els encPP Ty_api_Partial 5 a c L) = R := list_set_self hi
  have hil : i < R.length := get_lt hi
  have ii : ∀ {r : Res}, (R.set i r)[i]? = some r := by intro r; rw [List.getElem?_set_self hil]
  have ia : ∀ {r : Res} {T : List Res}, (R.set i r ++ T)[i]? = some r := by intro r T; rw [List.getElem?_append_left (by simpa using hil), List.getElem?_set_self hil]
  have st : ∀ {r s : Res}, (R.set i r).set i s = R.set i s := by intro r s; simp
  have sta : ∀ {r s : Res} {T : List Res}, (R.set i r ++ T).set i s = R.set i s ++ T := by intro r s T; rw [List.set_append_left _ _ (by simpa using hil), st]
  have hln : (L.map (·.p)).length = L.length := List.length_map _
  have C := indexFuncP_ct (c := c) (ff := ff) (fc := fc) (g := del) hpa (by omega) p hok fun w' x a1 c1 a2 c2 hx hb => hf (L' := L) (T := []) x a1 c1 a2 c2 (by rw [List.append_nil, hset]; exact H.pass hb) hx
  rw [hln] at C
  refine C.mono ?_; clear C
  rintro _ w1 ⟨rfl, hb1⟩; have H1 := H.pass hb1
  refine ⟨_, rfl, ?_⟩
  refine bsplit_dec (fun c1 => ?_) (fun c1 => ?_)
  · have hno : ∀ x ∈ L.map (·.p), p x = false := by
      rcases idx_or p (L.map (·.p)) with ⟨_, h2⟩ | ⟨k, hk, e, _⟩
      · exact h2
      · omega
    have hfl : L.filter (fun y => !p y.p) = L := List.filter_eq_self.2 fun y hy => by rw [hno y.p (List.mem_map.2 ⟨y, hy, rfl⟩)]; rfl
    have := h w1 (by rw [hfl, hset]; exact H1)
    rw [hfl] at this
    exact this
  · obtain ⟨r, hr, hre, hpr, hrn⟩ : ∃ r, ∃ hr : r < L.length, idx p (L.map (·.p)) = (r : Int) ∧ p L[r].p = true ∧ ∀ y ∈ L.take r, p y.p = false := by
      rcases idx_or p (L.map (·.p)) with ⟨e, _⟩ | ⟨k, hk, e, h2⟩
      · exact absurd e c1
      · refine ⟨k, by omega, e, by simpa using h2, ?_⟩
        intro y hy
        obtain ⟨j, hj, rfl⟩ := List.getElem_of_mem hy
        rw [List.length_take] at hj
        rw [List.getElem_take]
        cases hpj : p L[j].p with
        | false => rfl
        | true =>
          exfalso
          have : idx p (L.map (·.p)) ≤ j := idx_le (by omega) (by simpa using hpj)
          omega
    rw [hre]
    refine kW_i64 (by omega) ?_
    obtain ⟨g, rfl, -, hnc⟩ := H1.rowSome hi (by omega)
    have ftake : ∀ k (hk : k < L.length), (L.take (k + 1)).filter (fun y => !p y.p) = (L.take k).filter (fun y => !p y.p) ++ if p L[k].p then [] else [L[k]] := fun k hk => by
      rw [List.take_succ_eq_append_getElem hk, List.filter_append]
      congr 1
      cases hp : p L[k].p <;> simp [hp]
    have hfr : (L.take r).filter (fun y => !p y.p) = L.take r := List.filter_eq_self.2 fun y hy => by rw [hrn y hy]; rfl
    refine ⟨fun i' j => ((L.length - j).toNat, fun w2 => ∃ (m k : Nat) (L' : List PP), i' = m ∧ j = k ∧ k ≤ L.length ∧ m < k ∧ L'.length = L.length ∧ L'.take m = (L.take k).filter (fun y => !p y.p) ∧ L'.drop k = L.drop k ∧ St A0 M w0 w2 (R.set i (.els encPP Ty_api_Partial 5 (some ⟨g, 0, none⟩) c L')) P),
      ⟨r, r + 1, L, rfl, by omega, by omega, by omega, rfl, ?_, rfl, by rw [hset]; exact H1⟩, ?_⟩
    · rw [ftake r hr, hpr, if_pos rfl, List.append_nil, hfr]
    clear H1
    rintro _ i' j w2 ⟨m, k, L', rfl, rfl, hk, hmk, hL', htk, hdk, H2⟩
    refine bsplit_dec (fun c2 => ?_) (fun c2 => ?_)
    · have hkl : k < L.length := by omega
      have hkl' : k < L'.length := by omega
      have hx0 : L'[k] = L[k] := by
        have h1 := List.drop_eq_getElem_cons hkl'
        have h2 := List.drop_eq_getElem_cons hkl
        rw [h1, h2] at hdk
        injection hdk
      have hd1 : L'.drop (k + 1) = L.drop (k + 1) := by
        have h1 := List.drop_eq_getElem_cons hkl'
        have h2 := List.drop_eq_getElem_cons hkl
        rw [h1, h2] at hdk
        injection hdk
      obtain ⟨x, hx⟩ : ∃ x, x = L[k] := ⟨_, rfl⟩
      refine kIx_at ⟨by omega, by omega⟩ ?_
      have hce := H2.cellsEl encPP_ok ii hkl'
      rw [hx0, ← hx] at hce
      rw [elA0]
      refine ⟨_, _, _, _, _, _, _, _, _, hce, ?_⟩
      refine H2.alloc ?_; clear H2; intro b1 w3 H3
      have hlast : ∀ {r s : Res}, (R.set i r ++ [s])[R.length]? = some s := by intro r s; rw [List.getElem?_append_right (by simp)]; simp
      refine H3.store (i := R.length) hlast (by rfl) (by rfl) ?_; clear H3; intro w4 H4
      have e4 : ∀ {r s : Res} {r' : Res}, (R.set i r ++ [s]).set R.length r' = R.set i r ++ [r'] := by
        intro r s r'
        rw [List.set_append_right _ _ (by simp)]; simp
      rw [e4] at H4
      refine ⟨_, _, _, _, _, _, _, _, _, H4.cells (i := R.length) hlast, ?_⟩
      refine ⟨hok, ?_⟩
      refine (hf x.p x.a x.c x.a2 x.c2 H4 (by rw [hx]; exact List.mem_map.2 ⟨_, List.getElem_mem hkl, rfl⟩)).mono ?_
      rintro _ w5 ⟨rfl, hb5⟩; have H5 := H4.pass hb5; clear H4
      refine ⟨_, rfl, ?_⟩
      refine bsplit_n (fun c3 => ?_) (fun c3 => ?_)
      · refine ⟨_, _, _, _, _, _, _, _, _, H5.cells (i := R.length) hlast, ?_⟩
        refine kIx_at ⟨by omega, by omega⟩ ?_
        rw [elA0]
        refine H5.storeEl encPP_ok (i := i) ia (k := m) (by omega) x ?_
        intro w6 _ H6
        rw [sta] at H6
        refine kW_i64 (by omega) ?_
        refine kW_i64 (by omega) ?_
        refine ⟨⟨m + 1, k + 1, L'.set m x, by omega, by omega, by omega, by omega, by simp [hL'], ?_, ?_, St.dropLast (R := R.set i _) H6⟩, by dsimp only; omega⟩
        · rw [take_set_end (by omega), htk, ftake k hkl, ← hx, c3]; rfl
        · rw [List.drop_set_of_lt (by omega), hd1]
      · refine kW_i64 (by omega) ?_
        refine ⟨⟨m, k + 1, L', rfl, by omega, by omega, by omega, hL', ?_, hd1, St.dropLast (R := R.set i _) H5⟩, by dsimp only; omega⟩
        rw [htk, ftake k hkl, ← hx, c3]; simp
    · obtain rfl : k = L.length := by omega
      rw [List.take_length] at htk
      have hml : (L.filter fun y => !p y.p).length = m := by rw [← htk, List.length_take]; omega
      refine ⟨⟨by omega, by omega⟩, ?_⟩
      rw [Int.toNat_natCast, slA (by omega)]
      obtain ⟨rest, hr1, hcm, _, H4⟩ := H2.rowBlk ii
      rw [st] at H4
      have hsp : L'.flatMap encPP = (L'.take m).flatMap encPP ++ (L'.drop m).flatMap encPP := by rw [← List.flatMap_append, List.take_append_drop]
      have hxl : ((L'.take m).flatMap encPP).length = m * 5 := by rw [flat_len encPP_ok, List.length_take, Nat.min_eq_left (by omega)]
      have hyl : ((L'.drop m).flatMap encPP).length = (L.length - m) * 5 := by rw [flat_len encPP_ok, List.length_drop, hL']
      rw [hsp] at H4 hr1
      refine H4.clearB (T := Ty_api_Partial) (g := g) ((L'.take m).flatMap encPP) ((L'.drop m).flatMap encPP) rest (by rw [ii]) sl_Ty_S_api_Partial rfl hxl (by omega) hyl ?_
      intro w3 Y' hY' H5
      rw [st] at H5
      have H6 := H5.blkRow ii 5 m c (by simp only [List.length_append] at hr1 ⊢; omega) (by omega) hcm
      rw [st] at H6
      have e2 : (((L'.take m).flatMap encPP ++ Y' ++ rest).take (m * 5)) = (L'.take m).flatMap encPP := by
        rw [List.append_assoc, ← hxl]; exact List.take_left
      rw [e2] at H6
      refine ⟨⟨by omega, by omega⟩, ?_⟩
      rw [slA0, Nat.sub_zero, Nat.sub_zero]
      have := h w3 (by rw [← htk, Res.els, List.length_take, Nat.min_eq_left (by omega)]; exact H6)
      rw [hml] at this
      exact this
end
end Go.Proofs.YtlgolgpellbnbaaGreat
namespace Go.Proofs.YtlgolgpellbnbaaGreat
open Go.Sx Go.RowKit
set_option maxRecDepth 100000
def RetOR (w : World) (s : Rc) (mk : Value → Value) (e : Ending) (w' : World) : Prop :=
  ∃ ua uc L, L.map (·.p) = s.parts ∧ e = .returned (mk (aggRc s ua uc)) ∧ St (fun _ => False) [] w w' [.els encPP Ty_api_Partial 5 ua uc L] (fun w => DaP L w ∧ CoR L w)
section
variable {s : Rc} {a : Option Addr} {c : Nat} {w : World}
theorem own_Receiver_ct (hu : PaR w a s.parts) (hf : FitP s.parts) :
    Calls Tryz.prog N_own_Receiver #[aggRc s a c] w (RetOR w s fun v => v) := by
  apply F_own_Receiver_ok
  unfold F_own_Receiver
  have H := St.nil w
  obtain ⟨hf1, hf2⟩ := hf
  obtain ⟨L0, hL0, hs0, hd0, hr0⟩ := paR_up hu
  have hlen : L0.length = s.parts.length := by rw [← hL0, List.length_map]
  refine H.alloc ?_; clear H; intro b w1 H1
  refine H1.alloc ?_; clear H1; intro b1 w2 H2
  simp only [List.cons_append, List.nil_append] at H2
  refine H2.ldS (i := 0) rfl rfl ?_
  rw [← hlen]
  refine (clone_parts (hs0.belowE H2.below) (by omega)).mono ?_
  rintro _ w3 ⟨ua, uc, rfl, K⟩
  have H3 := H2.callR K; clear H2
  simp only [List.cons_append, List.nil_append] at H3
  refine ⟨_, _, _, rfl, ?_⟩
  refine H3.set (i := 0) rfl (by show 13 < 14; decide) ?_; clear H3; intro w4 H4
  simp only [List.set_cons_zero] at H4
  replace H4 : St (fun _ => False) [] w w4 [.blk b Ty_api_Receiver (encRc s ua uc), .blk b1 Ty_api_Receiver (encRc .zero none 0), .els encPP Ty_api_Partial 5 ua uc L0] (fun _ => True) := by
    have e : (encRc s a c).set 13 (.slice ua L0.length uc) = encRc s ua uc := by rw [hlen]; rfl
    rw [← e]; exact H4
  refine H4.ldS (i := 0) rfl rfl ?_
  refine ⟨fun x1 => ((s.parts.length - x1).toNat, fun w5 => ∃ (k : Nat) (L : List PP), x1 = k ∧ k ≤ s.parts.length ∧ L.map (·.p) = s.parts ∧ L.drop k = L0.drop k ∧
    St (fun _ => False) [] w w5 [.blk b Ty_api_Receiver (encRc s ua uc), .blk b1 Ty_api_Receiver (encRc .zero none 0), .els encPP Ty_api_Partial 5 ua uc L] (fun w => DaP (L.take k) w ∧ CoR (L.take k) w)),
    ⟨0, L0, rfl, by omega, hL0, rfl, H4.imp fun _ _ => ⟨fun x hx => by simp at hx, fun x hx => by simp at hx⟩⟩, ?_⟩
  clear H4 K
  rintro _ x1 w5 ⟨k, L, rfl, hk, hL, hdr, H5⟩
  have hlen5 : L.length = s.parts.length := by rw [← hL, List.length_map]
  refine bsplit_dec (fun c => ?_) (fun c => ?_)
  · have hlt : k < L.length := by omega
    have hlt0 : k < L0.length := by omega
    have hx0 : L[k] = L0[k] := by
      have h1 := List.drop_eq_getElem_cons hlt
      have h2 := List.drop_eq_getElem_cons hlt0
      rw [h1, h2] at hdr
      injection hdr
    obtain ⟨x, hx⟩ : ∃ x, x = L[k] := ⟨_, rfl⟩
    have hmem : x ∈ L0 := by rw [hx, hx0]; exact List.getElem_mem _
    have hmu : x.p ∈ s.parts := by rw [← hL0]; exact List.mem_map.2 ⟨x, hmem, rfl⟩
    obtain ⟨hfr, hfd⟩ := hf2 _ hmu
    obtain ⟨g, rfl, hg1, hg2⟩ := H5.rowSome (i := 2) rfl (by omega)
    refine kIx_at ⟨by omega, by omega⟩ ?_
    have hce := H5.cellsEl encPP_ok (i := 2) rfl hlt
    rw [← hx] at hce
    rw [elA0]
    refine ⟨_, _, _, _, _, _, _, _, _, hce, ?_⟩
    refine H5.alloc ?_; clear H5; intro b3 w6 H6
    simp only [List.cons_append, List.nil_append] at H6
    refine H6.store (i := 3) rfl (by rfl) (by rfl) ?_; clear H6; intro w7 H7
    replace H7 : St (fun _ => False) [] w w7 [.blk b Ty_api_Receiver (encRc s (some ⟨g, 0, none⟩) uc), .blk b1 Ty_api_Receiver (encRc .zero none 0), .els encPP Ty_api_Partial 5 (some ⟨g, 0, none⟩) uc L, .blk b3 Ty_api_Partial (encPP x)] (fun w => DaP (L.take k) w ∧ CoR (L.take k) w) := H7
    refine H7.drew ?_; clear H7; intro w8 H8
    refine ⟨fun z => z = b ∨ z = b3, ?_⟩
    refine ⟨.inl rfl, ?_⟩
    refine H8.ldS (i := 0) rfl rfl ?_
    refine ⟨.inl rfl, ?_⟩
    refine H8.ldS (i := 0) rfl rfl ?_
    refine H8.ldS (i := 3) rfl rfl ?_
    refine ⟨.inr rfl, ?_⟩
    refine H8.ldS (i := 3) rfl rfl ?_
    refine (clone_bytes ((hd0 x hmem).1.below H8.below) (by omega)).mono ?_
    rintro _ w9 ⟨ra, rc, rfl, K9⟩
    have H9 := H8.callR K9
    have hcap := H9.capI (i := 4) rfl
    replace H9 := St.shareLast (R := [_, _, _, _]) H9
    refine ⟨_, _, _, rfl, ?_⟩
    refine ⟨keepB2 (keepB1 (H8.ok 0 _ rfl) (H9.ok 0 _ rfl)) (keepB1 (H8.ok 3 _ rfl) (H9.ok 3 _ rfl)), ?_⟩
    refine (clone_ranges ((hr0 x hmem).belowE H9.below) (by omega)).mono ?_
    rintro _ w10 ⟨ra2, rc2, rfl, K10⟩
    have H10 := St.shareLast (R := [_, _, _, _]) (H9.callR K10)
    refine ⟨_, _, _, rfl, ?_⟩
    refine ⟨keepB2 (keepB1 (H8.ok 0 _ rfl) (H10.ok 0 _ rfl)) (keepB1 (H8.ok 3 _ rfl) (H10.ok 3 _ rfl)), ?_⟩
    rw [hlen5.symm] at *
    refine kIx_at ⟨by omega, by omega⟩ ?_
    rw [elAd]
    refine H10.setEl encPP_ok (i := 2) rfl hlt (j := 3) (by decide) ⟨x.p, ra, rc, x.a2, x.c2⟩ (by rw [← hx]; rfl) ?_
    intro w11 _ H11
    simp only [List.set_cons_succ, List.set_cons_zero] at H11
    have hlt9 : k < (L.set k ⟨x.p, ra, rc, x.a2, x.c2⟩).length := by simpa using hlt
    refine ⟨keepB2 (keepB1 (H8.ok 0 _ rfl) (H11.ok 0 _ rfl)) (keepB1 (H8.ok 3 _ rfl) (H11.ok 3 _ rfl)), ?_⟩
    refine kIx_at ⟨by omega, by omega⟩ ?_
    rw [elAd]
    refine H11.setEl encPP_ok (i := 2) rfl hlt9 (j := 4) (by decide) ⟨x.p, ra, rc, ra2, rc2⟩ (by simp; rfl) ?_
    intro w12 _ H12
    simp only [List.set_cons_succ, List.set_cons_zero] at H12
    rw [List.set_set] at H12
    refine kW_i64 (by omega) ?_
    refine ⟨⟨k + 1, L.set k ⟨x.p, ra, rc, ra2, rc2⟩, by omega, by omega, ?_, ?_, (St.left (X := [_, _, _]) H12).imp fun w h => ?_⟩, by dsimp only; omega⟩
    · rw [← hL]
      apply List.ext_getElem (by simp)
      intro i h1 h2
      simp only [List.getElem_map, List.getElem_set]
      split
      · rename_i h; subst h; rw [hx]
      · rfl
    · rw [drop_set_end]
      have h1 := List.drop_eq_getElem_cons hlt
      have h2 := List.drop_eq_getElem_cons hlt0
      rw [h1, h2] at hdr
      injection hdr
    · rw [take_set_end hlt]
      refine ⟨fun y hy => ?_, fun y hy => ?_⟩
      · rcases List.mem_append.1 hy with hy | hy
        · exact h.2.2.1 y hy
        · simp at hy; subst hy; exact ⟨(ints_ok h.2.1).sl, hcap⟩
      · rcases List.mem_append.1 hy with hy | hy
        · exact h.2.2.2 y hy
        · simp at hy; subst hy; exact els_sl encR_ok h.1
  · obtain rfl : k = s.parts.length := by omega
    rw [List.take_of_length_le (by omega)] at H5
    refine ⟨_, _, _, _, _, _, _, _, _, _, _, _, _, _, _, _, H5.cells (i := 0) rfl, ?_⟩
    refine H5.store (i := 1) rfl (by rfl) (by rfl) ?_; clear H5; intro w13 H13
    refine ⟨_, _, _, _, _, _, _, _, _, _, _, _, _, _, _, _, H13.cells (i := 1) rfl, ?_⟩
    exact ⟨ua, uc, L, hL, rfl, St.skip (X := []) (St.skip (X := []) H13)⟩
end
section
variable {A0 : Nat → Prop} {M : List Nat} {w0 w : World} {R : List Res} {P : World → Prop} {s : Rc} {ua : Option Addr} {uc : Nat} {br bp : Nat} {tp : TypeId}
theorem expire_1_ct {n : Int} (H : St A0 M w0 w R P) {i j : Nat} (hi : R[i]? = some (.blk br Ty_api_Receiver (encRc s ua uc))) (hj : R[j]? = some (.blk bp tp [.pointer (some ⟨br, 0, none⟩)])) (hb : bitsOk s.lk.bits) :
    Calls Tryz.prog N_unack_expire_1 #[.int .i64 n, .pointer (some ⟨bp, 0, none⟩)] w fun e w' => e = .returned (.int .i64 (s.place n)) ∧ Below w.heap.size w w' := by
  apply F_unack_expire_1_ok
  unfold F_unack_expire_1
  have K := St.nil w
  refine K.drew ?_; clear K; intro w1 K1
  have H1 := H.pass K1.below
  obtain ⟨hb1, hb2⟩ := hb
  refine ⟨_, H1.cell hj rfl, ?_⟩
  refine kNil_in ?_
  refine H1.ld hi rfl ?_
  refine ⟨_, H1.cell hj rfl, ?_⟩
  refine kNil_in ?_
  refine H1.ld hi rfl ?_
  refine serial_Distance_ct.mono ?_
  rintro _ w2 ⟨rfl, hb⟩
  refine ⟨_, rfl, ?_⟩
  exact ⟨by rw [if_pos (by omega)]; rfl, (K1.pass hb).below⟩
theorem expire_2_ct {x : Pa} {a1 a2 : Option Addr} {c1 c2 bf bm : Nat} {tf tm : TypeId} {mk : Int} (H : St A0 M w0 w R P) {i j k m : Nat} (hi : R[i]? = some (.blk br Ty_api_Receiver (encRc s ua uc))) (hj : R[j]? = some (.blk bp tp [.pointer (some ⟨br, 0, none⟩)]))
    (hk : R[k]? = some (.blk bf tf [.func (.func N_unack_expire_1) #[] #[.pointer (some ⟨bp, 0, none⟩)]])) (hm : R[m]? = some (.blk bm tm [.int .i64 mk])) (hb : bitsOk s.lk.bits) :
    Calls Tryz.prog N_unack_expire_2 #[aggPa x a1 c1 a2 c2, .pointer (some ⟨bf, 0, none⟩), .pointer (some ⟨bm, 0, none⟩)] w fun e w' => e = .returned (.bool (decide (s.place x.sn < mk))) ∧ Below w.heap.size w w' := by
  apply F_unack_expire_2_ok
  unfold F_unack_expire_2
  have K := St.nil w
  refine K.alloc ?_; clear K; intro b w1 K1
  refine K1.drew ?_; clear K1; intro w2 K2
  have H2 := H.pass K2.below
  refine ⟨fun z => z = bm, ?_⟩
  refine ⟨_, _, _, H2.cell hk rfl, ?_⟩
  refine K2.ld (i := 0) rfl rfl ?_
  refine ⟨rfl, ?_⟩
  refine H2.ld hm rfl ?_
  refine ⟨by kernel_rfl, ?_⟩
  refine (expire_1_ct (n := x.sn) H2 hi hj hb).mono ?_
  rintro _ w3 ⟨rfl, hb3⟩
  have H3 := H2.pass hb3
  refine ⟨_, rfl, ?_⟩
  refine ⟨keepB1 (H2.ok m _ hm) (H3.ok m _ hm), ?_⟩
  refine kLet_in ?_
  exact ⟨rfl, (K2.pass hb3).below⟩
end
end Go.Proofs.YtlgolgpellbnbaaGreat
namespace Go.Sx
def expL (s : Rc) : List Pa := s.parts.filter fun p => !decide (s.place p.sn < s.place s.mark)
def expT (s : Rc) : Rc := { s with first := (dropS s.lk.bits s.mark (expL s)).1, parts := (dropS s.lk.bits s.mark (expL s)).2, mark := -1 }
def expS (s : Rc) : Rc := if (expT s).first ≠ (expT s).next then { expT s with mark := (expT s).next, left := s.lk.wait } else expT s
end Go.Sx
namespace Go.Proofs.YtlgolgpellbnbaaGreat
open Go.Sx Go.RowKit
set_option maxRecDepth 100000
theorem paR_tail {w : World} {a : Option Addr} {c : Nat} {x : Pa} {l : List Pa} (h : PaR w a (x :: l)) (hc : (x :: l).length ≤ c) : PaR w (slAddr c 1 5 a) l := by
  have := h.cutE hc (l.length) (l := 1)
  simpa using this
section
variable {w0 w : World} {P : World → Prop} {s : Rc} {ua : Option Addr} {uc : Nat} {br : Nat} {X0 X1 : Res} {L : List PP} {A0 : Nat → Prop}
theorem expire_ct (H : St A0 [] w0 w [X0, X1, .els encPP Ty_api_Partial 5 ua uc L, .blk br Ty_api_Receiver (encRc s ua uc)] (fun w => DaP L w ∧ CoR L w ∧ P w)) (hL : L.map (·.p) = s.parts) (hb : bitsOk s.lk.bits) (hl : L.length ≤ 1000000) (hm : snOk s.lk.bits s.mark)
    {F : Ending → World → Prop} (h : ∀ va vc w', (expS s).parts.length ≤ vc → St A0 [] w0 w' [X0, X1, .gone, .blk br Ty_api_Receiver (encRc (expS s) va vc)] (fun w => PaR w va (expS s).parts ∧ P w) → F (.returned (.tuple #[])) w') :
    Calls Tryz.prog N_unack_expire #[.pointer (some ⟨br, 0, none⟩)] w F := by
  apply F_unack_expire_ok
  unfold F_unack_expire
  have hLl : L.length = s.parts.length := by rw [← hL, List.length_map]
  have hbb := hb
  obtain ⟨hb1, hb2⟩ := hbb
  have hpw := pow_bits hb
  refine H.alloc ?_; clear H; intro b w1 H1
  refine H1.alloc ?_; clear H1; intro b1 w2 H2
  simp only [List.cons_append, List.nil_append] at H2
  refine H2.set (i := 5) rfl (by show 0 < 1; decide) ?_; clear H2; intro w3 H3
  obtain ⟨Q, hQ⟩ : ∃ Q : World → Prop, Q = fun w => DaP L w ∧ CoR L w ∧ P w := ⟨_, rfl⟩
  replace H3 : St A0 [] w0 w3 [X0, X1, .els encPP Ty_api_Partial 5 ua uc L, .blk br Ty_api_Receiver (encRc s ua uc), .blk b Ty_P_api_Receiver [.pointer (some ⟨br, 0, none⟩)], .blk b1 Ty_func_int_int [.func (.func N_unack_expire_1) #[] #[.pointer (some ⟨b, 0, none⟩)]]] Q := by rw [hQ]; exact H3
  refine ⟨fun mark w11 => ∃ bm, mark = (⟨bm, 0, none⟩ : Addr) ∧ St A0 [] w0 w11 [X0, X1, .els encPP Ty_api_Partial 5 ua uc L, .blk br Ty_api_Receiver (encRc s ua uc), .blk b Ty_P_api_Receiver [.pointer (some ⟨br, 0, none⟩)], .blk b1 Ty_func_int_int [.func (.func N_unack_expire_1) #[] #[.pointer (some ⟨b, 0, none⟩)]], .blk bm Ty_int [.int .i64 (s.place s.mark)]] Q, ?_, ?_⟩
  · rintro _ _ w11 ⟨bm, rfl, H11⟩
    clear H3
    refine H11.drew ?_; clear H11; intro w12 H12
    refine ⟨fun z => z = b, ?_⟩
    refine ⟨rfl, ?_⟩
    refine ⟨_, H12.cell (i := 4) rfl rfl, ?_⟩
    refine ⟨_, H12.cell (i := 4) rfl rfl, ?_⟩
    refine kNil_in ?_
    refine ⟨_, _, _, H12.cell (i := 3) (o := 13) rfl rfl, ?_⟩
    have hg := H12.get
    rw [hQ] at hg
    have hpa : PaR w12 ua (L.map (·.p)) := up_paR (H12.slE encPP_ok (i := 2) rfl) hg.1 hg.2.1
    have hcl : ∀ {w' : World} {L' : List PP} {T : List Res} (x : Pa) (a1 : Option Addr) (c1 : Nat) (a2 : Option Addr) (c2 : Nat), St A0 [] w0 w' ([X0, X1, .els encPP Ty_api_Partial 5 ua uc L, .blk br Ty_api_Receiver (encRc s ua uc), .blk b Ty_P_api_Receiver [.pointer (some ⟨br, 0, none⟩)], .blk b1 Ty_func_int_int [.func (.func N_unack_expire_1) #[] #[.pointer (some ⟨b, 0, none⟩)]], .blk bm Ty_int [.int .i64 (s.place s.mark)]].set 2 (.els encPP Ty_api_Partial 5 ua uc L') ++ T) Q →
        Calls Tryz.prog N_unack_expire_2 (#[] ++ #[aggPa x a1 c1 a2 c2] ++ #[.pointer (some ⟨b1, 0, none⟩), .pointer (some ⟨bm, 0, none⟩)]) w' fun e w'' => e = .returned (.bool (decide (s.place x.sn < s.place s.mark))) ∧ Below w'.heap.size w' w'' := fun {w' L' T} x a1 c1 a2 c2 H' => by
      simp only [List.set_cons_succ, List.set_cons_zero, List.cons_append, List.nil_append] at H'
      have e : (#[] ++ #[aggPa x a1 c1 a2 c2] ++ #[.pointer (some ⟨b1, 0, none⟩), .pointer (some ⟨bm, 0, none⟩)] : Array Value) = #[aggPa x a1 c1 a2 c2, .pointer (some ⟨b1, 0, none⟩), .pointer (some ⟨bm, 0, none⟩)] := rfl
      rw [e]
      exact expire_2_ct (i := 3) (j := 4) (k := 5) (m := 6) H' rfl rfl rfl rfl hb
    rw [← hLl]
    refine deleteFunc_ct (H := H12) (i := 2) (p := fun x => decide (s.place x.sn < s.place s.mark)) rfl hl hpa (by kernel_rfl) (ff := #[]) (fc := #[.pointer (some ⟨b1, 0, none⟩), .pointer (some ⟨bm, 0, none⟩)]) (fun {w' L' T} x a1 c1 a2 c2 H' _ => hcl (T := T) x a1 c1 a2 c2 H') ?_
    intro w13 H13
    simp only [List.set_cons_succ, List.set_cons_zero] at H13
    refine ⟨_, _, _, rfl, ?_⟩
    refine ⟨keepB1 (H12.ok 4 _ rfl) (H13.ok 4 _ rfl), ?_⟩
    clear H12
    refine kNil_in ?_
    obtain ⟨L1, hL1⟩ : ∃ L1, L1 = L.filter fun y => !(fun x : Pa => decide (s.place x.sn < s.place s.mark)) y.p := ⟨_, rfl⟩
    rw [← hL1] at H13 ⊢
    have hL1m : L1.map (·.p) = expL s := by
      rw [hL1]; unfold expL
      rw [← hL, List.filter_map]; rfl
    have hL1l : L1.length = (expL s).length := by rw [← hL1m, List.length_map]
    have hsub : ∀ y ∈ L1, y ∈ L := fun y hy => by rw [hL1] at hy; exact (List.mem_filter.1 hy).1
    refine H13.set (i := 3) (o := 13) rfl (by show 13 < 14; decide) ?_; clear H13; intro w14 H14
    have hcap := H14.capE (i := 2) rfl
    have H14 := H14.shareE encPP_ok (i := 2) rfl
    obtain ⟨T, hT⟩ : ∃ T, T = expL s := ⟨_, rfl⟩
    rw [← hT] at hL1m hL1l

    replace H14 : St A0 [] w0 w14 [X0, X1, .gone, .blk br Ty_api_Receiver (encRc { s with parts := T } ua uc), .blk b Ty_P_api_Receiver [.pointer (some ⟨br, 0, none⟩)]] (fun w => PaR w ua T ∧ P w) := by
      have e : encRc { s with parts := T } ua uc = (encRc s ua uc).set 13 (.slice ua L1.length uc) := by rw [hL1l]; rfl
      rw [e]
      refine (St.left (X := [_, _, _, _, _]) H14).imp fun w h => ?_
      rw [hQ] at h
      refine ⟨?_, h.2.2.2⟩
      rw [← hL1m]
      exact up_paR h.1 (fun y hy => h.2.1 y (hsub y hy)) (fun y hy => h.2.2.1 y (hsub y hy))
    have hTc : T.length ≤ uc := by omega
    have hTl : T.length ≤ 1000000 := by rw [← hL1l]; have := List.length_filter_le (fun y : PP => !(fun x : Pa => decide (s.place x.sn < s.place s.mark)) y.p) L; rw [← hL1] at this; omega
    clear hg hpa hL1 hL1m hsub hcap
    refine H14.drew ?_; clear H14; intro w15 H15
    refine ⟨fun z => z = b, ?_⟩
    refine ⟨_, H15.cell (i := 4) rfl rfl, ?_⟩
    refine ⟨rfl, ?_⟩
    refine ⟨_, H15.cell (i := 4) rfl rfl, ?_⟩
    refine ⟨_, H15.cell (i := 4) rfl rfl, ?_⟩
    refine kNil_in ?_
    refine H15.ld (i := 3) (o := 9) rfl rfl ?_
    refine kNil_in ?_
    refine H15.set (i := 3) (o := 6) rfl (by show 6 < 14; decide) ?_; intro w16 H16
    refine ⟨keepB1 (H15.ok 4 _ rfl) (H16.ok 4 _ rfl), ?_⟩
    clear H15
    refine kNil_in ?_
    refine H16.set (i := 3) (o := 9) rfl (by show 9 < 14; decide) ?_; clear H16; intro w17 H17
    replace H17 : St A0 [] w0 w17 [X0, X1, .gone, .blk br Ty_api_Receiver (encRc { s with parts := T, first := s.mark, mark := -1 } ua uc), .blk b Ty_P_api_Receiver [.pointer (some ⟨br, 0, none⟩)]] (fun w => PaR w ua T ∧ P w) := H17
    obtain ⟨D, hD⟩ : ∃ D, D = dropS s.lk.bits s.mark T := ⟨_, rfl⟩
    have hexp : expT s = { s with first := D.1, parts := D.2, mark := -1 } := by unfold expT; rw [← hT, ← hD]
    refine ⟨fun w26 => ∃ va vc, D.2.length ≤ vc ∧ St A0 [] w0 w26 [X0, X1, .gone, .blk br Ty_api_Receiver (encRc (expT s) va vc), .blk b Ty_P_api_Receiver [.pointer (some ⟨br, 0, none⟩)]] (fun w => PaR w va D.2 ∧ P w), ?_, ?_⟩
    · rintro _ w26 ⟨va, vc, hvc, H26⟩
      clear H17
      rw [hexp] at H26
      refine H26.drew ?_; clear H26; intro w27 H27
      refine ⟨_, H27.cell (i := 4) rfl rfl, ?_⟩
      refine kNil_in ?_
      refine H27.ld (i := 3) (o := 6) rfl rfl ?_
      refine ⟨_, H27.cell (i := 4) rfl rfl, ?_⟩
      refine kNil_in ?_
      refine H27.ld (i := 3) (o := 7) rfl rfl ?_
      refine bsplit_nd (fun c1 => ?_) (fun c1 => ?_)
      · refine H27.drew ?_; clear H27; intro w28 H28
        refine ⟨fun z => z = b, ?_⟩
        refine ⟨_, H28.cell (i := 4) rfl rfl, ?_⟩
        refine ⟨rfl, ?_⟩
        refine ⟨_, H28.cell (i := 4) rfl rfl, ?_⟩
        refine ⟨_, H28.cell (i := 4) rfl rfl, ?_⟩
        refine kNil_in ?_
        refine H28.ld (i := 3) (o := 7) rfl rfl ?_
        refine ⟨_, H28.cell (i := 4) rfl rfl, ?_⟩
        refine kNil_in ?_
        refine H28.ld (i := 3) (o := 3) rfl rfl ?_
        refine kNil_in ?_
        refine H28.set (i := 3) (o := 9) rfl (by show 9 < 14; decide) ?_; intro w29 H29
        refine ⟨keepB1 (H28.ok 4 _ rfl) (H29.ok 4 _ rfl), ?_⟩
        clear H28
        refine kNil_in ?_
        refine H29.set (i := 3) (o := 10) rfl (by show 10 < 14; decide) ?_; clear H29; intro w30 H30
        have he : expS s = { s with first := D.1, parts := D.2, mark := s.next, left := s.lk.wait } := by
          unfold expS; rw [hexp, if_pos (show D.1 ≠ s.next from c1)]
        refine h va vc w30 (by rw [he]; exact hvc) ?_
        rw [he]
        exact St.left (X := [_, _, _, _]) H30
      · have he : expS s = { s with first := D.1, parts := D.2, mark := -1 } := by
          unfold expS; rw [hexp, if_neg (show ¬ D.1 ≠ s.next from fun h => h c1)]
        refine h va vc w27 (by rw [he]; exact hvc) ?_
        rw [he]
        exact St.left (X := [_, _, _, _]) H27
    · refine ⟨fun m w18 => ∃ (l : List Pa) (f : Int) (va : Option Addr) (vc : Nat), m = l.length ∧ l.length ≤ vc ∧ snOk s.lk.bits f ∧ dropS s.lk.bits f l = D ∧ St A0 [] w0 w18 [X0, X1, .gone, .blk br Ty_api_Receiver (encRc { s with parts := l, first := f, mark := -1 } va vc), .blk b Ty_P_api_Receiver [.pointer (some ⟨br, 0, none⟩)]] (fun w => PaR w va l ∧ P w), ⟨_, T, s.mark, ua, uc, rfl, hTc, hm, hD.symm, H17⟩, ?_⟩
      clear H17
      rintro _ m w18 ⟨l, f, va, vc, rfl, hlc, hf, hdr, H18⟩
      refine ⟨fun w20 => ∃ x l', l = x :: l' ∧ x.sn = f ∧ x.done = true ∧ St A0 [] w0 w20 [X0, X1, .gone, .blk br Ty_api_Receiver (encRc { s with parts := l, first := f, mark := -1 } va vc), .blk b Ty_P_api_Receiver [.pointer (some ⟨br, 0, none⟩)]] (fun w => PaR w va l ∧ P w), ?_, ?_⟩
      · rintro _ w20 ⟨x, l', rfl, hxs, hxd, H20⟩
        clear H18
        have hd2 : dropS s.lk.bits ((f + 1) % 2 ^ s.lk.bits.toNat) l' = D := by rw [← hdr, dropS, if_pos ⟨hxs, hxd⟩]
        refine H20.drew ?_; clear H20; intro w21 H21
        refine ⟨_, H21.cell (i := 4) rfl rfl, ?_⟩
        refine ⟨_, H21.cell (i := 4) rfl rfl, ?_⟩
        refine kNil_in ?_
        refine ⟨_, _, _, H21.cell (i := 3) (o := 13) rfl rfl, ?_⟩
        simp only [List.length_cons] at hlc
        refine ⟨⟨by omega, by show (1 : Int) ≤ (((x :: l').length : Nat) : Int); rw [List.length_cons]; omega⟩, ?_⟩
        refine kNil_in ?_
        refine H21.set (i := 3) (o := 13) rfl (by show 13 < 14; decide) ?_; clear H21; intro w22 H22
        have el : (x :: l').length - (1 : Int).toNat = l'.length := by simp
        rw [el] at H22
        replace H22 : St A0 [] w0 w22 [X0, X1, .gone, .blk br Ty_api_Receiver (encRc { s with parts := l', first := f, mark := -1 } (slAddr vc 1 5 va) (vc - 1)), .blk b Ty_P_api_Receiver [.pointer (some ⟨br, 0, none⟩)]] (fun w => PaR w (slAddr vc 1 5 va) l' ∧ P w) := H22.imp fun w h => ⟨paR_tail h.1 (by simp; omega), h.2⟩
        refine H22.drew ?_; clear H22; intro w23 H23
        refine ⟨fun z => z = b, ?_⟩
        refine ⟨rfl, ?_⟩
        refine ⟨_, H23.cell (i := 4) rfl rfl, ?_⟩
        refine ⟨_, H23.cell (i := 4) rfl rfl, ?_⟩
        refine kNil_in ?_
        refine H23.ld (i := 3) (o := 0) rfl rfl ?_
        refine ⟨_, H23.cell (i := 4) rfl rfl, ?_⟩
        refine kNil_in ?_
        refine H23.ld (i := 3) (o := 6) rfl rfl ?_
        have hf' : 0 ≤ f ∧ f < 2 ^ s.lk.bits.toNat := hf
        refine kW_i64 (by show -9223372036854775808 ≤ f + 1 ∧ f + 1 ≤ _; omega) ?_
        refine serial_Low_ct.mono ?_
        rintro _ w24 ⟨rfl, hb24⟩; have H24 := H23.pass hb24
        rw [if_pos (by show 1 ≤ s.lk.bits ∧ s.lk.bits ≤ 32; omega)]
        refine ⟨_, rfl, ?_⟩
        refine ⟨keepB1 (H23.ok 4 _ rfl) (H24.ok 4 _ rfl), ?_⟩
        clear H23
        refine kNil_in ?_
        refine H24.set (i := 3) (o := 6) rfl (by show 6 < 14; decide) ?_; clear H24; intro w25 H25
        refine ⟨l'.length, by simp, l', (f + 1) % 2 ^ s.lk.bits.toNat, slAddr vc 1 5 va, vc - 1, rfl, by omega, ?_, hd2, H25⟩
        unfold snOk
        rcases hpw with e | e | e | e | e <;> rw [e] <;> omega
      · refine H18.drew ?_; clear H18; intro w19 H19
        have exit : ∀ {w' : World}, (∀ x l', l = x :: l' → ¬ (x.sn = f ∧ x.done = true)) → St A0 [] w0 w' [X0, X1, .gone, .blk br Ty_api_Receiver (encRc { s with parts := l, first := f, mark := -1 } va vc), .blk b Ty_P_api_Receiver [.pointer (some ⟨br, 0, none⟩)]] (fun w => PaR w va l ∧ P w) →
            ∃ va vc, D.2.length ≤ vc ∧ St A0 [] w0 w' [X0, X1, .gone, .blk br Ty_api_Receiver (encRc (expT s) va vc), .blk b Ty_P_api_Receiver [.pointer (some ⟨br, 0, none⟩)]] (fun w => PaR w va D.2 ∧ P w) := fun {w'} hx H => by
          have hDe : D = (f, l) := by
            rw [← hdr]
            cases l with
            | nil => rfl
            | cons x l' => rw [dropS, if_neg (hx x l' rfl)]
          refine ⟨va, vc, by rw [hDe]; exact hlc, ?_⟩
          rw [hexp, hDe]
          exact H
        refine ⟨_, H19.cell (i := 4) rfl rfl, ?_⟩
        refine kNil_in ?_
        refine ⟨_, _, _, H19.cell (i := 3) (o := 13) rfl rfl, ?_⟩
        refine bsplit_dec (fun c1 => ?_) (fun c1 => ?_)
        · obtain ⟨x, l', hl'⟩ : ∃ x l', l = x :: l' := by
            cases l with
            | nil => simp at c1
            | cons x l' => exact ⟨x, l', rfl⟩
          subst hl'
          refine ⟨_, H19.cell (i := 4) rfl rfl, ?_⟩
          refine kNil_in ?_
          refine ⟨_, _, _, H19.cell (i := 3) (o := 13) rfl rfl, ?_⟩
          refine ixPa H19.get.1 0 rfl (by simp) fun b4 hb4 => ?_
          obtain ⟨a4, c4, a5, c5, hce, _, _, _⟩ := hb4
          refine ld_at hce 0 rfl ?_
          refine ⟨_, H19.cell (i := 4) rfl rfl, ?_⟩
          refine kNil_in ?_
          refine H19.ld (i := 3) (o := 6) rfl rfl ?_
          refine bsplit_dec (fun c2 => ?_) (fun c2 => ?_)
          · refine ⟨_, H19.cell (i := 4) rfl rfl, ?_⟩
            refine kNil_in ?_
            refine ⟨_, _, _, H19.cell (i := 3) (o := 13) rfl rfl, ?_⟩
            refine ixPa H19.get.1 0 rfl (by simp) fun b5 hb5 => ?_
            obtain ⟨a6, c6, a7, c7, hce2, _, _, _⟩ := hb5
            refine ldB_at hce2 1 rfl ?_
            refine bsplit_intro (fun c3 => ?_) (fun c3 => ?_)
            · exact ⟨x, l', rfl, c2, c3, H19⟩
            · exact exit (fun y l'' e hh => by injection e with e1 e2; subst e1; exact absurd (hh.2.symm.trans c3) (by decide)) H19
          · exact exit (fun y l'' e hh => by injection e with e1 e2; subst e1; exact c2 hh.1) H19
        · have hnil : l = [] := List.eq_nil_of_length_eq_zero (by show l.length = 0; have : ¬ ((l.length : Nat) : Int) > 0 := c1; omega)
          exact exit (fun x l' e => by rw [hnil] at e; cases e) H19
  · refine H3.drew ?_; clear H3; intro w4 H4
    refine ⟨fun z => (z = b1 ∨ z = b) ∨ z = br, ?_⟩
    refine ⟨.inl (.inl rfl), ?_⟩
    refine ⟨_, _, _, H4.cell (i := 5) rfl rfl, ?_⟩
    refine ⟨.inl (.inr rfl), ?_⟩
    refine ⟨_, H4.cell (i := 4) rfl rfl, ?_⟩
    refine kNil_in ?_
    refine ⟨.inr rfl, ?_⟩
    refine H4.ld (i := 3) (o := 9) rfl rfl ?_
    have kp : ∀ {w' : World} {T : List Res}, St A0 [] w0 w' ([X0, X1, .els encPP Ty_api_Partial 5 ua uc L, .blk br Ty_api_Receiver (encRc s ua uc), .blk b Ty_P_api_Receiver [.pointer (some ⟨br, 0, none⟩)], .blk b1 Ty_func_int_int [.func (.func N_unack_expire_1) #[] #[.pointer (some ⟨b, 0, none⟩)]]] ++ T) Q → KeepsB (fun z => (z = b1 ∨ z = b) ∨ z = br) w4 w' := fun {w' T} H' =>
      keepB2 (keepB2 (keepB1 (H4.ok 5 _ rfl) (H'.ok 5 _ rfl)) (keepB1 (H4.ok 4 _ rfl) (H'.ok 4 _ rfl))) (keepB1 (H4.ok 3 _ rfl) (H'.ok 3 _ rfl))
    refine ⟨?_, ?_, trivial⟩
    · refine ⟨by kernel_rfl, ?_⟩
      refine (expire_1_ct (n := s.mark) H4 (i := 3) (j := 4) rfl rfl hb).mono ?_
      rintro _ w8 ⟨rfl, hb8⟩; have H8 := H4.pass hb8
      refine ⟨_, rfl, ?_⟩
      refine ⟨kp (T := []) H8, ?_⟩
      refine H8.alloc ?_; intro bm w9 H9
      refine ⟨kp H9, ?_⟩
      refine H9.set (i := 6) rfl (by show 0 < 1; decide) ?_; intro w10 H10
      exact ⟨bm, rfl, H10⟩
    · refine H4.alloc ?_; intro bm w5 H5
      refine ⟨kp H5, ?_⟩
      refine ⟨by kernel_rfl, ?_⟩
      refine (expire_1_ct (n := s.mark) H5 (i := 3) (j := 4) rfl rfl hb).mono ?_
      rintro _ w6 ⟨rfl, hb6⟩; have H6 := H5.pass hb6
      refine ⟨_, rfl, ?_⟩
      refine ⟨kp H6, ?_⟩
      refine H6.set (i := 6) rfl (by show 0 < 1; decide) ?_; intro w7 H7
      exact ⟨bm, rfl, H7⟩
end
end Go.Proofs.YtlgolgpellbnbaaGreat
namespace Go.Sx
open Go.Proofs.YtlgolgpellbnbaaGreat
def tickU (s : Rc) : Rc × Int :=
  if s.okB = false then (s, 1) else if s.left = 0 then (plainR s, 0)
  else if s.left - 1 = 0 then (plainR (expS { s with left := s.left - 1 }), 0) else (plainR { s with left := s.left - 1 }, 0)
theorem ok_left {s : Rc} (h : s.okB = true) : (s.left = 0 ∨ (1 ≤ s.left ∧ s.left ≤ 1000 ∧ snOk s.lk.bits s.mark)) ∧ bitsOk s.lk.bits := by
  obtain ⟨hc, -, -, hm⟩ := ok_iff.1 h
  refine ⟨?_, hc.lk.1⟩
  rcases mark_iff.1 hm with ⟨_, h2⟩ | ⟨_, h2, _, _, h5, h6⟩
  · exact .inl h2
  · have := hc.lk.2.2.2.1.2
    exact .inr ⟨h5, by omega, h2⟩
end Go.Sx
namespace Go.Proofs.YtlgolgpellbnbaaGreat
open Go.Sx Go.RowKit
set_option maxRecDepth 100000
def RetTF (w : World) (x : Rc × Int) (e : Ending) (w' : World) : Prop :=
  ∃ a c, e = .returned (.tuple #[aggRc x.1 a c, .int .i64 x.2]) ∧ Fresh w w' fun w => PaR w a x.1.parts
section
variable {s : Rc} {a : Option Addr} {c : Nat} {w : World}
theorem unack_Tick_ct (hu : PaR w a s.parts) (hf : FitP s.parts) (hs : SmP s.parts) :
    Calls Tryz.prog N_unack_Tick #[aggRc s a c] w (RetTF w (tickU s)) := by
  apply F_unack_Tick_ok
  unfold F_unack_Tick
  have H := St.nil w
  refine H.alloc ?_; clear H; intro b w1 H1
  refine H1.alloc ?_; clear H1; intro b1 w2 H2
  refine ⟨_, _, _, _, _, _, _, _, _, _, _, _, _, _, _, _, H2.cells (i := 0) rfl, ?_⟩
  refine (own_Receiver_ct (paR_below hu H2.below) hf).mono ?_
  rintro _ w3 ⟨ua, uc, L, hL, rfl, K⟩; have H3 := H2.callF K; clear H2 K
  have hLl : L.length = s.parts.length := by rw [← hL, List.length_map]
  refine ⟨_, _, _, _, _, _, _, _, _, _, _, _, _, _, _, _, rfl, ?_⟩
  refine H3.alloc ?_; clear H3; intro b2 w4 H4
  simp only [List.cons_append, List.nil_append] at H4
  refine H4.store (i := 3) rfl (by rfl) (by rfl) ?_; clear H4; intro w5 H5
  replace H5 : St (fun _ => False) [] w w5 [.blk b Ty_api_Receiver (encRc s a c), .blk b1 Ty_api_Receiver (encRc .zero none 0), .els encPP Ty_api_Partial 5 ua uc L, .blk b2 Ty_api_Receiver (encRc s ua uc)] (fun w => DaP L w ∧ CoR L w ∧ True) := H5.imp fun w h => ⟨h.1.1, h.1.2, trivial⟩
  refine ⟨_, _, _, _, _, _, _, _, _, _, _, _, _, _, _, _, H5.cells (i := 0) rfl, ?_⟩
  refine (receiver_Valid_ct (paR_below hu H5.below) hs).mono ?_
  rintro _ w6 ⟨rfl, hb6⟩; have H6 := H5.pass hb6; clear H5
  refine ⟨_, rfl, ?_⟩
  have hpar : ∀ {w : World}, SlR (CE encPP) 5 w ua L → DaP L w → CoR L w → PaR w ua s.parts := fun h1 h2 h3 => by rw [← hL]; exact up_paR h1 h2 h3
  refine bsplit_n (fun c2 => ?_) (fun c2 => ?_)
  · refine ⟨_, _, _, _, _, _, _, _, _, _, _, _, _, _, _, _, H6.cells (i := 3) rfl, ?_⟩
    refine H6.store (i := 1) rfl (by rfl) (by rfl) ?_; clear H6; intro w7 H7
    refine ⟨_, _, _, _, _, _, _, _, _, _, _, _, _, _, _, _, H7.cells (i := 1) rfl, ?_⟩
    have he : tickU s = (s, 1) := by unfold tickU; rw [if_pos c2]
    rw [he]
    exact ⟨ua, uc, rfl, ((H7.shareE encPP_ok (i := 2) rfl).fin).imp fun w h => hpar h.1 h.2.1 h.2.2.1⟩
  · obtain ⟨hlf, hb⟩ := ok_left c2
    have hn : ¬ s.okB = false := by rw [c2]; decide
    refine H6.ld (i := 3) rfl rfl ?_

    have fin : ∀ {w' : World} {t : Rc} {va : Option Addr} {vc : Nat} {r2 : Res} {Q : World → Prop}, tickU s = (plainR t, 0) → (∀ w, Q w → PaR w va t.parts) → St (fun _ => False) [] w w' [.blk b Ty_api_Receiver (encRc s a c), .blk b1 Ty_api_Receiver (encRc .zero none 0), r2, .blk b2 Ty_api_Receiver (encRc t va vc)] Q →
        ∃ x_0 x_1 x_2 x_3 x_4 x_5 x_6 x_7 x_8 x_9 x_10 x_11 x_12 x_13_a x_13_l x_13_c, cellsAt w' ⟨b2, 0, none⟩ 0 [.int .i64 x_0, .int .i64 x_1, .int .i64 x_2, .int .i64 x_3, .int .i64 x_4, .int .i64 x_5, .int .i64 x_6, .int .i64 x_7, .int .i64 x_8, .int .i64 x_9, .int .i64 x_10, .int .i64 x_11, .bool x_12, .slice x_13_a x_13_l x_13_c] ∧
          Calls Tryz.prog N_unack_plain #[.agg #[.int .i64 x_0, .int .i64 x_1, .int .i64 x_2, .int .i64 x_3, .int .i64 x_4, .int .i64 x_5, .int .i64 x_6, .int .i64 x_7, .int .i64 x_8, .int .i64 x_9, .int .i64 x_10, .int .i64 x_11, .bool x_12, .slice x_13_a x_13_l x_13_c]] w' fun e_ w10 =>
            ∃ y_0 y_1 y_2 y_3 y_4 y_5 y_6 y_7 y_8 y_9 y_10 y_11 y_12 y_13_a y_13_l y_13_c, e_ = .returned (.agg #[.int .i64 y_0, .int .i64 y_1, .int .i64 y_2, .int .i64 y_3, .int .i64 y_4, .int .i64 y_5, .int .i64 y_6, .int .i64 y_7, .int .i64 y_8, .int .i64 y_9, .int .i64 y_10, .int .i64 y_11, .bool y_12, .slice y_13_a y_13_l y_13_c]) ∧
              sxStore w10 ⟨b1, 0, none⟩ 0 [.int .i64 y_0, .int .i64 y_1, .int .i64 y_2, .int .i64 y_3, .int .i64 y_4, .int .i64 y_5, .int .i64 y_6, .int .i64 y_7, .int .i64 y_8, .int .i64 y_9, .int .i64 y_10, .int .i64 y_11, .bool y_12, .slice y_13_a y_13_l y_13_c] fun w11 =>
                ∃ z_0 z_1 z_2 z_3 z_4 z_5 z_6 z_7 z_8 z_9 z_10 z_11 z_12 z_13_a z_13_l z_13_c, cellsAt w11 ⟨b1, 0, none⟩ 0 [.int .i64 z_0, .int .i64 z_1, .int .i64 z_2, .int .i64 z_3, .int .i64 z_4, .int .i64 z_5, .int .i64 z_6, .int .i64 z_7, .int .i64 z_8, .int .i64 z_9, .int .i64 z_10, .int .i64 z_11, .bool z_12, .slice z_13_a z_13_l z_13_c] ∧
                  RetTF w (tickU s) (.returned (.tuple #[.agg #[.int .i64 z_0, .int .i64 z_1, .int .i64 z_2, .int .i64 z_3, .int .i64 z_4, .int .i64 z_5, .int .i64 z_6, .int .i64 z_7, .int .i64 z_8, .int .i64 z_9, .int .i64 z_10, .int .i64 z_11, .bool z_12, .slice z_13_a z_13_l z_13_c], .int .i64 0])) w11 := fun {w' t va vc r2 Q} ht hQ H => by
      refine ⟨_, _, _, _, _, _, _, _, _, _, _, _, _, _, _, _, H.cells (i := 3) rfl, ?_⟩
      refine (unack_plain_ct (s := t)).mono ?_
      rintro _ w10 ⟨rfl, hb10⟩; have H10 := H.pass hb10
      refine ⟨_, _, _, _, _, _, _, _, _, _, _, _, _, _, _, _, rfl, ?_⟩
      refine H10.store (i := 1) rfl (by rfl) (by rfl) ?_; clear H10; intro w11 H11
      refine ⟨_, _, _, _, _, _, _, _, _, _, _, _, _, _, _, _, H11.cells (i := 1) rfl, ?_⟩
      rw [ht]
      exact ⟨va, vc, rfl, H11.fin.imp fun w h => hQ w h⟩
    refine bsplit_dec (fun c1 => ?_) (fun c1 => ?_)
    · have hl0 : ¬ s.left = 0 := by omega
      have hl1 : 1 ≤ s.left ∧ s.left ≤ 1000 ∧ snOk s.lk.bits s.mark := hlf.resolve_left hl0
      refine H6.ld (i := 3) rfl rfl ?_
      refine kW_i64 (by omega) ?_
      refine H6.set (i := 3) rfl (by show 10 < 14; decide) ?_; clear H6; intro w8 H8
      replace H8 : St (fun _ => False) [] w w8 [.blk b Ty_api_Receiver (encRc s a c), .blk b1 Ty_api_Receiver (encRc .zero none 0), .els encPP Ty_api_Partial 5 ua uc L, .blk b2 Ty_api_Receiver (encRc { s with left := s.left - 1 } ua uc)] (fun w => DaP L w ∧ CoR L w ∧ True) := H8
      refine H8.ld (i := 3) rfl rfl ?_
      refine bsplit_dec (fun c0 => ?_) (fun c0 => ?_)
      · have ht : tickU s = (plainR (expS { s with left := s.left - 1 }), 0) := by unfold tickU; rw [if_neg hn, if_neg hl0, if_pos c0]
        refine expire_ct (s := { s with left := s.left - 1 }) H8 hL hb (by have := hf.1; omega) hl1.2.2 ?_
        intro va vc w9 hvc H9
        refine ⟨rfl, ?_⟩
        exact fin ht (fun w h => h.1) H9
      · have ht : tickU s = (plainR { s with left := s.left - 1 }, 0) := by unfold tickU; rw [if_neg hn, if_neg hl0, if_neg c0]
        refine fin (t := { s with left := s.left - 1 }) (va := ua) (vc := uc) (r2 := .gone) (Q := fun w => SlR (CE encPP) 5 w ua L ∧ DaP L w ∧ CoR L w ∧ True) ht (fun w h => hpar h.1 h.2.1 h.2.2.1) ?_
        exact H8.shareE encPP_ok (i := 2) rfl
    · have hl0 : s.left = 0 := by rcases hlf with h | h <;> omega
      have ht : tickU s = (plainR s, 0) := by unfold tickU; rw [if_neg hn, if_pos hl0]
      refine fin (t := s) (va := ua) (vc := uc) (r2 := .gone) (Q := fun w => SlR (CE encPP) 5 w ua L ∧ DaP L w ∧ CoR L w ∧ True) ht (fun w h => hpar h.1 h.2.1 h.2.2.1) ?_
      exact H6.shareE encPP_ok (i := 2) rfl
end
end Go.Proofs.YtlgolgpellbnbaaGreat
namespace Go.Proofs.YtlgolgpellbnbaaGreat
open Go.Sx Go.RowKit
set_option maxRecDepth 100000
abbrev PL (L : List PP) (a : Option Addr) (w : World) : Prop := SlR (CE encPP) 5 w a L ∧ DaP L w ∧ CoR L w
def RetTA (A : Nat → Prop) (w : World) (x : Rc × Int) (e : Ending) (w' : World) : Prop :=
  ∃ a c L, L.map (·.p) = x.1.parts ∧ e = .returned (.tuple #[aggRc x.1 a c, .int .i64 x.2]) ∧ St A [] w w' [] (PL L a)
section
variable {s : Rc} {a : Option Addr} {c : Nat} {w : World} {n : Int}
theorem ref23_quiet_ct : Calls Tryz.prog N_ref23_quiet #[aggRc s a c] w fun e w' => e = .returned (aggRc (plainR s) a c) ∧ Below w.heap.size w w' := by
  apply F_ref23_quiet_ok
  unfold F_ref23_quiet
  have H := St.nil w
  refine H.alloc ?_; clear H; intro b w1 H1
  refine H1.alloc ?_; clear H1; intro b1 w2 H2
  simp only [List.cons_append, List.nil_append] at H2
  refine H2.ld (i := 0) rfl rfl ?_
  refine H2.set (i := 0) rfl (by show 12 < 14; decide) ?_; clear H2; intro w3 H3
  refine H3.set (i := 0) rfl (by show 8 < 14; decide) ?_; clear H3; intro w4 H4
  refine ⟨_, _, _, _, _, _, _, _, _, _, _, _, _, _, _, _, H4.cells (i := 0) rfl, ?_⟩
  refine H4.store (i := 1) rfl (by rfl) (by rfl) ?_; clear H4; intro w5 H5
  refine ⟨_, _, _, _, _, _, _, _, _, _, _, _, _, _, _, _, H5.cells (i := 1) rfl, ?_⟩
  exact ⟨rfl, H5.below⟩
theorem ref23_place_ct (hb : bitsOk s.lk.bits) : Calls Tryz.prog N_ref23_place #[aggRc s a c, .int .i64 n] w fun e w' => e = .returned (.int .i64 (s.place n)) ∧ Below w.heap.size w w' := by
  apply F_ref23_place_ok
  unfold F_ref23_place
  have H := St.nil w
  obtain ⟨hb1, hb2⟩ := hb
  refine H.alloc ?_; clear H; intro b w1 H1
  refine H1.ld (i := 0) rfl rfl ?_
  refine H1.ld (i := 0) rfl rfl ?_
  refine ref02_Distance_ct.mono ?_
  rintro _ w2 ⟨rfl, hb2⟩; have H2 := H1.pass hb2; clear H1
  refine ⟨_, rfl, ?_⟩
  exact ⟨by rw [if_pos (by omega)]; rfl, H2.below⟩
theorem ref23_next_ct (hb : bitsOk s.lk.bits) (hn : 0 ≤ n ∧ n ≤ 1000) : Calls Tryz.prog N_ref23_next #[aggRc s a c, .int .i64 n] w fun e w' => e = .returned (.int .i64 ((n + 1) % 2 ^ s.lk.bits.toNat)) ∧ Below w.heap.size w w' := by
  apply F_ref23_next_ok
  unfold F_ref23_next
  have H := St.nil w
  have hpw := pow_bits hb
  obtain ⟨hb1, hb2⟩ := hb
  refine H.alloc ?_; clear H; intro b w1 H1
  refine kW_i64 (by omega) ?_
  refine H1.ld (i := 0) rfl rfl ?_
  refine kW_u64 (by omega) ?_
  refine ⟨by omega, ?_⟩
  refine kShl1 (by omega) ?_
  refine ⟨by omega, ?_⟩
  refine kTmod (by omega) ?_
  exact ⟨rfl, H1.below⟩
theorem ref23_Tick_ct {A : Nat → Prop} {L : List PP} (hL : L.map (·.p) = s.parts) (hQ : Held A w (PL L a)) (hl : L.length ≤ 1000000) (hs : SmP s.parts) :
    Calls Tryz.prog N_ref23_Tick #[aggRc s a c] w (RetTA A w (tickU s)) := by
  apply F_ref23_Tick_ok
  unfold F_ref23_Tick
  have H := St.start hQ
  have hLl : L.length = s.parts.length := by rw [← hL, List.length_map]
  have hpar : ∀ {w : World}, PL L a w → PaR w a s.parts := fun h => by rw [← hL]; exact up_paR h.1 h.2.1 h.2.2
  refine H.alloc ?_; clear H; intro b w1 H1
  refine H1.alloc ?_; clear H1; intro b1 w2 H2
  refine ⟨_, _, _, _, _, _, _, _, _, _, _, _, _, _, _, _, H2.cells (i := 0) rfl, ?_⟩
  refine (ref21_Valid_ct (hpar H2.get) hs).mono ?_
  rintro _ w3 ⟨rfl, hb3⟩; have H3 := H2.pass hb3; clear H2
  refine ⟨_, rfl, ?_⟩
  replace H3 : St A [] w w3 [.blk b Ty_api_Receiver (encRc s a c), .blk b1 Ty_api_Receiver (encRc .zero none 0)] (PL L a) := H3
  refine bsplit_n (fun c8 => ?_) (fun c8 => ?_)
  · refine ⟨_, _, _, _, _, _, _, _, _, _, _, _, _, _, _, _, H3.cells (i := 0) rfl, ?_⟩
    refine H3.store (i := 1) rfl (by rfl) (by rfl) ?_; clear H3; intro w4 H4
    refine ⟨_, _, _, _, _, _, _, _, _, _, _, _, _, _, _, _, H4.cells (i := 1) rfl, ?_⟩
    have he : tickU s = (s, 1) := by unfold tickU; rw [if_pos c8]
    rw [he]
    exact ⟨a, c, L, hL, rfl, H4.fin⟩
  · obtain ⟨hlf, hb⟩ := ok_left c8
    have hbb := hb
    obtain ⟨hb1, hb2⟩ := hbb
    have hpw := pow_bits hb
    have hn : ¬ s.okB = false := by rw [c8]; decide
    have fin : ∀ {w' : World} {t : Rc} {va : Option Addr} {vc : Nat} {L' : List PP} {T : List Res} {Q : World → Prop}, tickU s = (plainR t, 0) → L'.map (·.p) = t.parts → (∀ w, Q w → PL L' va w) → St A [] w w' (.blk b Ty_api_Receiver (encRc t va vc) :: .blk b1 Ty_api_Receiver (encRc .zero none 0) :: T) Q →
        ∃ x_0 x_1 x_2 x_3 x_4 x_5 x_6 x_7 x_8 x_9 x_10 x_11 x_12 x_13_a x_13_l x_13_c, cellsAt w' ⟨b, 0, none⟩ 0 [.int .i64 x_0, .int .i64 x_1, .int .i64 x_2, .int .i64 x_3, .int .i64 x_4, .int .i64 x_5, .int .i64 x_6, .int .i64 x_7, .int .i64 x_8, .int .i64 x_9, .int .i64 x_10, .int .i64 x_11, .bool x_12, .slice x_13_a x_13_l x_13_c] ∧
          Calls Tryz.prog N_ref23_quiet #[.agg #[.int .i64 x_0, .int .i64 x_1, .int .i64 x_2, .int .i64 x_3, .int .i64 x_4, .int .i64 x_5, .int .i64 x_6, .int .i64 x_7, .int .i64 x_8, .int .i64 x_9, .int .i64 x_10, .int .i64 x_11, .bool x_12, .slice x_13_a x_13_l x_13_c]] w' fun e_ w10 =>
            ∃ y_0 y_1 y_2 y_3 y_4 y_5 y_6 y_7 y_8 y_9 y_10 y_11 y_12 y_13_a y_13_l y_13_c, e_ = .returned (.agg #[.int .i64 y_0, .int .i64 y_1, .int .i64 y_2, .int .i64 y_3, .int .i64 y_4, .int .i64 y_5, .int .i64 y_6, .int .i64 y_7, .int .i64 y_8, .int .i64 y_9, .int .i64 y_10, .int .i64 y_11, .bool y_12, .slice y_13_a y_13_l y_13_c]) ∧
              sxStore w10 ⟨b1, 0, none⟩ 0 [.int .i64 y_0, .int .i64 y_1, .int .i64 y_2, .int .i64 y_3, .int .i64 y_4, .int .i64 y_5, .int .i64 y_6, .int .i64 y_7, .int .i64 y_8, .int .i64 y_9, .int .i64 y_10, .int .i64 y_11, .bool y_12, .slice y_13_a y_13_l y_13_c] fun w11 =>
                ∃ z_0 z_1 z_2 z_3 z_4 z_5 z_6 z_7 z_8 z_9 z_10 z_11 z_12 z_13_a z_13_l z_13_c, cellsAt w11 ⟨b1, 0, none⟩ 0 [.int .i64 z_0, .int .i64 z_1, .int .i64 z_2, .int .i64 z_3, .int .i64 z_4, .int .i64 z_5, .int .i64 z_6, .int .i64 z_7, .int .i64 z_8, .int .i64 z_9, .int .i64 z_10, .int .i64 z_11, .bool z_12, .slice z_13_a z_13_l z_13_c] ∧
                  RetTA A w (tickU s) (.returned (.tuple #[.agg #[.int .i64 z_0, .int .i64 z_1, .int .i64 z_2, .int .i64 z_3, .int .i64 z_4, .int .i64 z_5, .int .i64 z_6, .int .i64 z_7, .int .i64 z_8, .int .i64 z_9, .int .i64 z_10, .int .i64 z_11, .bool z_12, .slice z_13_a z_13_l z_13_c], .int .i64 0])) w11 := fun {w' t va vc L' T Q} ht hL' hQ H => by
      refine ⟨_, _, _, _, _, _, _, _, _, _, _, _, _, _, _, _, H.cells (i := 0) rfl, ?_⟩
      refine (ref23_quiet_ct (s := t)).mono ?_
      rintro _ w10 ⟨rfl, hb10⟩; have H10 := H.pass hb10
      refine ⟨_, _, _, _, _, _, _, _, _, _, _, _, _, _, _, _, rfl, ?_⟩
      refine H10.store (i := 1) rfl (by rfl) (by rfl) ?_; clear H10; intro w11 H11
      refine ⟨_, _, _, _, _, _, _, _, _, _, _, _, _, _, _, _, H11.cells (i := 1) rfl, ?_⟩
      rw [ht]
      exact ⟨va, vc, L', hL', rfl, H11.fin.imp fun w h => hQ w h⟩
    refine H3.ld (i := 0) rfl rfl ?_
    refine bsplit_dec (fun c7 => ?_) (fun c7 => ?_)
    · have ht : tickU s = (plainR s, 0) := by unfold tickU; rw [if_neg hn, if_pos c7]
      exact fin (T := []) ht hL (fun w h => h) H3
    · have hl1 : 1 ≤ s.left ∧ s.left ≤ 1000 ∧ snOk s.lk.bits s.mark := hlf.resolve_left c7
      obtain ⟨t, ht⟩ : ∃ t : Rc, t = { s with left := s.left - 1 } := ⟨_, rfl⟩
      refine H3.ld (i := 0) rfl rfl ?_
      refine kW_i64 (by omega) ?_
      refine H3.set (i := 0) rfl (by show 10 < 14; decide) ?_; clear H3; intro w7 H7
      replace H7 : St A [] w w7 [.blk b Ty_api_Receiver (encRc t a c), .blk b1 Ty_api_Receiver (encRc .zero none 0)] (PL L a) := by rw [ht]; exact H7
      have htl : t.left = s.left - 1 := by rw [ht]
      have htb : t.lk.bits = s.lk.bits := by rw [ht]
      have htp : t.parts = s.parts := by rw [ht]
      have htm : t.mark = s.mark := by rw [ht]
      have htL : L.map (·.p) = t.parts := by rw [htp]; exact hL
      refine H7.ld (i := 0) rfl rfl ?_
      rw [htl]
      refine bsplit_dec (fun c6 => ?_) (fun c6 => ?_)
      · have hT : tickU s = (plainR t, 0) := by unfold tickU; rw [if_neg hn, if_neg c7, if_neg (by omega), ht]
        exact fin (T := []) hT htL (fun w h => h) H7
      · have hT : tickU s = (plainR (expS t), 0) := by unfold tickU; rw [if_neg hn, if_neg c7, if_pos (by omega), ht]
        have hbt : bitsOk t.lk.bits := by rw [htb]; exact hb
        have hpt := pow_bits hbt
        refine ⟨_, _, _, _, _, _, _, _, _, _, _, _, _, _, _, _, H7.cells (i := 0) rfl, ?_⟩
        refine H7.ld (i := 0) rfl rfl ?_
        refine (ref23_place_ct (s := t) (n := t.mark) hbt).mono ?_
        rintro _ w10 ⟨rfl, hb10⟩; have H10 := H7.pass hb10; clear H7
        refine ⟨_, rfl, ?_⟩
        obtain ⟨kp, hkp⟩ : ∃ kp : PP → Bool, kp = fun y => !decide (t.place y.p.sn < t.place t.mark) := ⟨_, rfl⟩
        have H10 := H10.nilE encPP Ty_api_Partial 5
        simp only [List.cons_append, List.nil_append] at H10
        refine ⟨fun stay_a stay_l stay_c i => ((L.length - i).toNat, fun w11 => ∃ k : Nat, i = k ∧ k ≤ L.length ∧ stay_l = ((L.take k).filter kp).length ∧ St A [] w w11 [.blk b Ty_api_Receiver (encRc t a c), .blk b1 Ty_api_Receiver (encRc .zero none 0), .els encPP Ty_api_Partial 5 stay_a stay_c ((L.take k).filter kp)] (PL L a)), ⟨0, rfl, by omega, rfl, H10⟩, ?_⟩
        clear H10
        rintro _ stay_a _ stay_c i w11 ⟨k, rfl, hk, rfl, H11⟩
        refine ⟨_, _, _, H11.cell (i := 0) (o := 13) rfl rfl, ?_⟩
        have htpl : t.parts.length = L.length := by rw [htp, hLl]
        rw [htpl]
        refine bsplit_dec (fun c5 => ?_) (fun c5 => ?_)
        · have hkl : k < L.length := by omega
          have hfs : (L.take (k + 1)).filter kp = (L.take k).filter kp ++ if kp L[k] then [L[k]] else [] := by
            rw [List.take_succ_eq_append_getElem hkl, List.filter_append]
            congr 1
            cases hp : kp L[k] <;> simp [hp]
          have hix : ∀ {w' : World} {F : Addr → Prop}, SlR (CE encPP) 5 w' a L → (∀ b2, CE encPP w' (b2.add ((k : Int).toNat * 5)) L[k] → F b2) → kIx a t.parts.length k F := fun {w' F} h hF => by
            rw [htpl]
            refine ixE h k rfl hkl fun b2 x hx hb2 => ?_
            obtain rfl : L[k] = x := by rw [List.getElem?_eq_getElem hkl] at hx; exact Option.some.inj hx
            exact hF b2 hb2
          refine H11.drew ?_; clear H11; intro w12 H12
          refine ⟨fun _ => False, ?_⟩
          refine ⟨_, _, _, _, _, _, _, _, _, _, _, _, _, _, _, _, H12.cells (i := 0) rfl, ?_⟩
          refine ⟨_, _, _, H12.cell (i := 0) (o := 13) rfl rfl, ?_⟩
          refine hix H12.get.1 fun b2 hb2 => ?_
          refine ⟨_, by have := cellsAt_get hb2 0 _ rfl; rwa [Nat.zero_add] at this, ?_⟩
          refine (ref23_place_ct (s := t) (n := L[k].p.sn) hbt).mono ?_
          rintro _ w13 ⟨rfl, hb13⟩; have H13 := H12.pass hb13; clear H12
          refine ⟨_, rfl, ?_⟩
          refine ⟨fun _ _ h => h.elim, ?_⟩
          refine bsplit_dec (fun c => ?_) (fun c => ?_)
          · have hkk : kp L[k] = true := by rw [hkp]; simpa using c
            rw [hkk, if_pos rfl] at hfs
            refine ⟨_, _, _, H13.cell (i := 0) (o := 13) rfl rfl, ?_⟩
            refine hix H13.get.1 fun b3 hb3 => ?_
            refine ⟨_, _, _, _, _, _, _, _, _, hb3, ?_⟩
            refine H13.alloc ?_; clear H13; intro b4 w14 H14
            simp only [List.cons_append, List.nil_append] at H14
            have hfl : ((L.take k).filter kp).length ≤ k := by
              have := List.length_filter_le kp (L.take k)
              rw [List.length_take] at this; omega
            refine H14.appEB encPP_ok (i := 2) (j := 3) rfl [L[k]] rfl sl_Ty_S_api_Partial rfl (by simp; omega) (by simp; omega) ?_
            intro x_a3 x_c3 w15 H15
            simp only [List.set_cons_succ, List.set_cons_zero] at H15
            refine kW_i64 (by omega) ?_
            refine ⟨⟨k + 1, by omega, by omega, by rw [hfs], ?_⟩, by dsimp only; omega⟩
            rw [hfs]
            exact St.dropLast (R := [_, _, _]) H15
          · have hkk : kp L[k] = false := by
              rw [hkp]
              have : t.place L[k].p.sn < t.place t.mark := by omega
              simp [this]
            rw [hkk, if_neg (by decide), List.append_nil] at hfs
            refine kW_i64 (by omega) ?_
            exact ⟨⟨k + 1, by omega, by omega, by rw [hfs], by rw [hfs]; exact H13⟩, by dsimp only; omega⟩
        · obtain rfl : k = L.length := by omega
          rw [List.take_length] at H11 ⊢
          obtain ⟨T, hTe⟩ : ∃ T, T = L.filter kp := ⟨_, rfl⟩
          rw [← hTe] at H11 ⊢
          have hTm : T.map (·.p) = expL t := by
            rw [hTe]; unfold expL
            rw [← htL, List.filter_map, hkp]; rfl
          have hTs : ∀ y ∈ T, y ∈ L := fun y hy => by rw [hTe] at hy; exact (List.mem_filter.1 hy).1
          have hcap := H11.capE (i := 2) rfl
          have H11 := H11.shareE encPP_ok (i := 2) rfl
          refine H11.ld (i := 0) rfl rfl ?_
          refine H11.set (i := 0) rfl (by show 6 < 14; decide) ?_; clear H11; intro w16 H16
          refine H16.set (i := 0) rfl (by show 9 < 14; decide) ?_; clear H16; intro w17 H17
          replace H17 : St A [] w w17 [.blk b Ty_api_Receiver (encRc { t with first := t.mark, mark := -1 } a c), .blk b1 Ty_api_Receiver (encRc .zero none 0)] (fun w => SlR (CE encPP) 5 w stay_a T ∧ PL L a w) := St.left (X := [_, _]) H17
          obtain ⟨D, hD⟩ : ∃ D, D = dropS t.lk.bits t.mark (expL t) := ⟨_, rfl⟩
          have hexp : expT t = { t with first := D.1, parts := D.2, mark := -1 } := by unfold expT; rw [← hD]
          refine ⟨fun sa sl sc w23 => ∃ l : List PP, sl = l.length ∧ D.2 = l.map (·.p) ∧ (∀ y ∈ l, y ∈ L) ∧ St A [] w w23 [.blk b Ty_api_Receiver (encRc { t with first := D.1, mark := -1 } a c), .blk b1 Ty_api_Receiver (encRc .zero none 0)] (fun w => SlR (CE encPP) 5 w sa l ∧ PL L a w), ?_, ?_⟩
          · rintro _ sa _ sc w23 ⟨l, rfl, hDl, hls, H23⟩
            clear H17
            refine H23.set (i := 0) rfl (by show 13 < 14; decide) ?_; clear H23; intro w24 H24
            have hpl : ∀ w, (SlR (CE encPP) 5 w sa l ∧ PL L a w) → PL l sa w := fun w h => ⟨h.1, fun y hy => h.2.2.1 y (hls y hy), fun y hy => h.2.2.2 y (hls y hy)⟩
            replace H24 : St A [] w w24 [.blk b Ty_api_Receiver (encRc (expT t) sa sc), .blk b1 Ty_api_Receiver (encRc .zero none 0)] (fun w => SlR (CE encPP) 5 w sa l ∧ PL L a w) := by
              rw [hexp]
              have e : encRc ({ t with first := D.1, parts := D.2, mark := -1 } : Rc) sa sc = (encRc ({ t with first := D.1, mark := -1 } : Rc) a c).set 13 (.slice sa l.length sc) := by
                unfold encRc; dsimp only; rw [hDl, List.length_map]; rfl
              rw [e]; exact H24
            have hpl2 : l.map (·.p) = (expT t).parts := by rw [hexp]; exact hDl.symm
            refine H24.ld (i := 0) rfl rfl ?_
            refine H24.ld (i := 0) rfl rfl ?_
            refine bsplit_nd (fun c4 => ?_) (fun c4 => ?_)
            · have he : expS t = { expT t with mark := (expT t).next, left := t.lk.wait } := by unfold expS; rw [if_pos c4]
              refine H24.ld (i := 0) rfl rfl ?_
              refine H24.ld (i := 0) rfl rfl ?_
              refine H24.set (i := 0) rfl (by show 9 < 14; decide) ?_; clear H24; intro w25 H25
              refine H25.set (i := 0) rfl (by show 10 < 14; decide) ?_; clear H25; intro w26 H26
              refine fin (T := []) (t := expS t) (va := sa) (vc := sc) (L' := l) hT (by rw [he]; exact hpl2) hpl ?_
              rw [he]
              have hw : (expT t).lk.wait = t.lk.wait := by rw [hexp]
              rw [← hw]
              exact H26
            · have he : expS t = expT t := by unfold expS; rw [if_neg (fun h => h c4)]
              refine fin (T := []) (t := expS t) (va := sa) (vc := sc) (L' := l) hT (by rw [he]; exact hpl2) hpl ?_
              rw [he]
              exact H24
          · refine ⟨fun sa sl sc => (sl, fun w18 => ∃ (l : List PP) (f : Int), sl = l.length ∧ l.length ≤ sc ∧ snOk t.lk.bits f ∧ dropS t.lk.bits f (l.map (·.p)) = D ∧ (∀ y ∈ l, y ∈ L) ∧ St A [] w w18 [.blk b Ty_api_Receiver (encRc { t with first := f, mark := -1 } a c), .blk b1 Ty_api_Receiver (encRc .zero none 0)] (fun w => SlR (CE encPP) 5 w sa l ∧ PL L a w)), ⟨T, t.mark, rfl, hcap, by rw [htb, htm]; exact hl1.2.2, by rw [hTm]; exact hD.symm, hTs, H17⟩, ?_⟩
            clear H17
            rintro _ sa _ sc w18 ⟨l, f, rfl, hlc, hf, hdr, hls, H18⟩
            refine ⟨fun w20 => ∃ x l', l = x :: l' ∧ x.p.sn = f ∧ x.p.done = true ∧ St A [] w w20 [.blk b Ty_api_Receiver (encRc { t with first := f, mark := -1 } a c), .blk b1 Ty_api_Receiver (encRc .zero none 0)] (fun w => SlR (CE encPP) 5 w sa l ∧ PL L a w), ?_, ?_⟩
            · rintro _ w20 ⟨x, l', rfl, hxs, hxd, H20⟩
              clear H18
              have hd2 : dropS t.lk.bits ((f + 1) % 2 ^ t.lk.bits.toNat) (l'.map (·.p)) = D := by rw [← hdr, List.map_cons, dropS, if_pos ⟨hxs, hxd⟩]
              simp only [List.length_cons] at hlc
              refine ⟨⟨by omega, by show (1 : Int) ≤ (((x :: l').length : Nat) : Int); rw [List.length_cons]; omega⟩, ?_⟩
              refine ⟨_, _, _, _, _, _, _, _, _, _, _, _, _, _, _, _, H20.cells (i := 0) rfl, ?_⟩
              refine H20.ld (i := 0) rfl rfl ?_
              have hf' : 0 ≤ f ∧ f < 2 ^ t.lk.bits.toNat := hf
              refine (ref23_next_ct (s := { t with first := f, mark := -1 }) (n := f) hbt (by omega)).mono ?_
              rintro _ w21 ⟨rfl, hb21⟩; have H21 := H20.pass hb21; clear H20
              refine ⟨_, rfl, ?_⟩
              refine H21.set (i := 0) rfl (by show 6 < 14; decide) ?_; clear H21; intro w22 H22
              have el : (x :: l').length - (1 : Int).toNat = l'.length := by simp
              rw [el]
              refine ⟨⟨l', (f + 1) % 2 ^ t.lk.bits.toNat, rfl, by show l'.length ≤ sc - 1; omega, ?_, hd2, fun y hy => hls y (by simp [hy]), H22.imp fun w h => ⟨?_, h.2⟩⟩, by simp⟩
              · unfold snOk
                rcases hpt with e | e | e | e | e <;> rw [e] <;> omega
              · have h1 := h.1.cutE (m := sc) (by simp; omega) l'.length (l := 1)
                simpa using h1
            · refine H18.drew ?_; clear H18; intro w19 H19
              have exit : ∀ {w' : World}, (∀ x l', l = x :: l' → ¬ (x.p.sn = f ∧ x.p.done = true)) → St A [] w w' [.blk b Ty_api_Receiver (encRc { t with first := f, mark := -1 } a c), .blk b1 Ty_api_Receiver (encRc .zero none 0)] (fun w => SlR (CE encPP) 5 w sa l ∧ PL L a w) →
                  ∃ l2 : List PP, l.length = l2.length ∧ D.2 = l2.map (·.p) ∧ (∀ y ∈ l2, y ∈ L) ∧ St A [] w w' [.blk b Ty_api_Receiver (encRc { t with first := D.1, mark := -1 } a c), .blk b1 Ty_api_Receiver (encRc .zero none 0)] (fun w => SlR (CE encPP) 5 w sa l2 ∧ PL L a w) := fun {w'} hx H => by
                have hDe : D = (f, l.map (·.p)) := by
                  rw [← hdr]
                  cases l with
                  | nil => rfl
                  | cons x l' => rw [List.map_cons, dropS, if_neg (hx x l' rfl)]
                refine ⟨l, rfl, by rw [hDe], hls, ?_⟩
                rw [hDe]
                exact H
              refine bsplit_dec (fun c1 => ?_) (fun c1 => ?_)
              · obtain ⟨x, l', hl'⟩ : ∃ x l', l = x :: l' := by
                  cases l with
                  | nil => simp at c1
                  | cons x l' => exact ⟨x, l', rfl⟩
                subst hl'
                refine ixE H19.get.1 0 rfl (by simp) fun b5 y hy hb5 => ?_
                obtain rfl : x = y := Option.some.inj hy
                refine ld_at hb5 0 rfl ?_
                refine H19.ld (i := 0) rfl rfl ?_
                refine bsplit_dec (fun c2 => ?_) (fun c2 => ?_)
                · refine ixE H19.get.1 0 rfl (by simp) fun b6 y hy hb6 => ?_
                  obtain rfl : x = y := Option.some.inj hy
                  refine ldB_at hb6 1 rfl ?_
                  refine bsplit_intro (fun c3 => ?_) (fun c3 => ?_)
                  · exact ⟨x, l', rfl, c2, c3, H19⟩
                  · exact exit (fun y l'' e hh => by injection e with e1 e2; subst e1; exact absurd (hh.2.symm.trans c3) (by decide)) H19
                · exact exit (fun y l'' e hh => by injection e with e1 e2; subst e1; exact c2 hh.1) H19
              · have hnil : l = [] := List.eq_nil_of_length_eq_zero (by omega)
                exact exit (fun x l' e => by rw [hnil] at e; cases e) H19
theorem ref23_Receive_ct {bs : List Int} {b_a : Option Addr} {b_c : Nat} (hu : PaR w a s.parts) (hl : SmP s.parts) (hs : SlR (IntC .u8) 1 w b_a bs) (hB : Bytes bs) (hlb : bs.length ≤ 140737488355328) (hcap : bs.length ≤ b_c) :
    Calls Tryz.prog N_ref23_Receive #[aggRc s a c, .slice b_a bs.length b_c] w (RetRU w (if (recS s bs).2.2 = 1 then (recS s bs).1 else plainR (recS s bs).1) (recS s bs).2.1 (recS s bs).2.2) := by
  apply F_ref23_Receive_ok
  unfold F_ref23_Receive
  have H := St.nil w
  refine H.alloc ?_; clear H; intro b w1 H1
  refine H1.alloc ?_; clear H1; intro b1 w2 H2
  refine ⟨_, _, _, _, _, _, _, _, _, _, _, _, _, _, _, _, H2.cells (i := 0) rfl, ?_⟩
  refine (ref21_Receive_ct (paR_below hu H2.below) hl (hs.below H2.below) hB hlb hcap).mono ?_
  obtain ⟨rr, hrr⟩ : ∃ rr, rr = recS s bs := ⟨_, rfl⟩
  rw [← hrr]
  rintro _ w3 ⟨ua, uc, ba, bc, rfl, hbc, K⟩; have H3 := H2.callF K; clear H2 K
  rw [List.append_nil] at H3
  refine ⟨_, _, _, _, _, _, _, _, _, _, _, _, _, _, _, _, _, _, _, _, rfl, ?_⟩
  refine H3.alloc ?_; clear H3; intro b2 w4 H4
  simp only [List.cons_append, List.nil_append] at H4
  refine H4.store (i := 2) rfl (by rfl) (by rfl) ?_; clear H4; intro w5 H5
  refine bsplit_dec (fun c => ?_) (fun c => ?_)
  · refine ⟨_, _, _, _, _, _, _, _, _, _, _, _, _, _, _, _, H5.cells (i := 2) rfl, ?_⟩
    refine H5.store (i := 1) rfl (by rfl) (by rfl) ?_; clear H5; intro w6 H6
    refine ⟨_, _, _, _, _, _, _, _, _, _, _, _, _, _, _, _, H6.cells (i := 1) rfl, ?_⟩
    rw [if_pos c]
    exact ⟨ua, uc, ba, bc, by rw [c], hbc, H6.fin.imp fun _ h => h.1⟩
  · refine ⟨_, _, _, _, _, _, _, _, _, _, _, _, _, _, _, _, H5.cells (i := 2) rfl, ?_⟩
    refine (ref23_quiet_ct (s := rr.1)).mono ?_
    rintro _ w7 ⟨rfl, hb7⟩; have H7 := H5.pass hb7; clear H5
    refine ⟨_, _, _, _, _, _, _, _, _, _, _, _, _, _, _, _, rfl, ?_⟩
    refine H7.store (i := 1) rfl (by rfl) (by rfl) ?_; clear H7; intro w8 H8
    refine ⟨_, _, _, _, _, _, _, _, _, _, _, _, _, _, _, _, H8.cells (i := 1) rfl, ?_⟩
    rw [if_neg c]
    exact ⟨ua, uc, ba, bc, rfl, hbc, H8.fin.imp fun _ h => h.1⟩
end
end Go.Proofs.YtlgolgpellbnbaaGreat
namespace Go.Sx
theorem St.only {A0 : Nat → Prop} {M : List Nat} {w0 w : World} {R : List Res} {P : World → Prop} (H : St A0 M w0 w R P) {i : Nat} {r : Res} (hi : R[i]? = some r) : St A0 M w0 w [r] P :=
  H.sub (fun _ => i) (fun j s h => by cases j with
    | zero => simp at h; subst h; exact hi
    | succ j => simp at h) (fun i j hi hj _ => by simp at hi hj; omega)
theorem St.lastOnly {A0 : Nat → Prop} {M : List Nat} {w0 w : World} {R : List Res} {r : Res} {P : World → Prop} (H : St A0 M w0 w (R ++ [r]) P) : St A0 M w0 w [r] P := H.only (i := R.length) (by simp)
end Go.Sx
namespace Go.Proofs.YtlgolgpellbnbaaGreat
open Go.Sx Go.RowKit
set_option maxRecDepth 100000
def RetBO (w : World) (bs : List Int) (er : Int) : Ending → World → Prop := fun e w' => ∃ a c, bs.length ≤ c ∧ e = .returned (.tuple #[.slice a bs.length c, .int .i64 er]) ∧ FreshR w w' [.ints Ty_uint8 .u8 a c bs]
section
variable {bits : Int} {p_0 : Int} {p_1 : Int} {p_2 : Int} {p_3 : Int} {p_4_a : Option Addr} {d : List Int} {p_4_c : Nat} {w : World}
theorem ref18_Encode_own (hs : SlR (IntC .u8) 1 w p_4_a d) (hl : d.length ≤ 140737488355000) :
    Calls Tryz.prog N_ref18_Encode #[(.int .i64 bits), (.agg #[.int .i64 p_0, .int .i64 p_1, .int .i64 p_2, .int .i64 p_3, .slice p_4_a d.length p_4_c])] w
      (RetBO w (encP bits ⟨p_0, p_1, p_2, p_3, d⟩).1 (encP bits ⟨p_0, p_1, p_2, p_3, d⟩).2) := by
  apply F_ref18_Encode_ok
  unfold F_ref18_Encode
  have H := St.nil w
  refine H.alloc ?_; clear H; intro b w1 H1
  refine ⟨_, _, _, _, _, _, _, H1.cells (i := 0) rfl, ?_⟩
  refine (ref18_Valid_ct (by omega)).mono ?_
  rintro _ w2 ⟨rfl, hb2⟩; have H2 := H1.pass hb2; clear H1
  refine ⟨_, rfl, ?_⟩
  refine bsplit_nd (fun c1 => ?_) (fun c1 => ?_)
  · have e0 : encP bits ⟨p_0, p_1, p_2, p_3, d⟩ = ([], 1) := if_neg c1
    rw [e0]
    exact ⟨none, 0, Nat.le_refl _, rfl, (H2.nilI Ty_uint8 .u8).only (i := 1) rfl⟩
  · have e0 : encP bits ⟨p_0, p_1, p_2, p_3, d⟩ = (Pc.bytes ⟨p_0, p_1, p_2, p_3, d⟩, 0) := if_pos c1
    rw [e0]
    clear e0
    obtain ⟨hb, h0, h1, h2, h3, h4, h5, h6⟩ := c1
    have hp := pow_bits hb
    refine H2.ld (i := 0) rfl rfl ?_
    refine kW_i64 (by omega) ?_
    refine kW_i64 (by omega) ?_
    refine H2.ld (i := 0) rfl rfl ?_
    refine kW_i64 (by omega) ?_
    refine kW_i64 (by omega) ?_
    refine H2.ld (i := 0) rfl rfl ?_
    refine kW_i64 (by omega) ?_
    have H2 := H2.nilI Ty_uint8 .u8
    obtain ⟨A, hA, hn, hr, hc⟩ := H2.callM (i := 1) rfl
    refine (put_ok (bytes := 2) (ys := []) hA hr hn (by omega) (by simp)).mono ?_
    rintro _ w3 ⟨r_a, r_c, rfl, K⟩; have H3 := (hc K).imp fun _ h => h.2
    clear K hc hr hn hA A H2
    refine ⟨_, _, _, rfl, ?_⟩
    have e1 : ([] ++ putB 2 (32768 + 16384 * p_2 + 4096 * p_1 + p_0)) = [(Pc.first ⟨p_0, p_1, p_2, p_3, d⟩) / 256, (Pc.first ⟨p_0, p_1, p_2, p_3, d⟩) % 256] := by
      rw [putB2]; simp only [Pc.first, List.nil_append, List.cons.injEq, and_true]; omega
    rw [e1] at H3 ⊢
    refine H3.ld (i := 0) rfl rfl ?_
    refine ref18_Head_ct.mono ?_
    rintro _ w4 ⟨rfl, hb4⟩; have H4 := H3.pass hb4; clear H3
    refine ⟨_, rfl, ?_⟩
    unfold headN Pc.bytes
    refine bsplit_dec (fun c => ?_) (fun c => ?_)
    · have c : ¬ (p_1 = 0 ∨ p_1 = 1) := fun h => by rw [if_pos h] at c; omega
      simp only [if_neg c]
      refine H4.ld (i := 0) rfl rfl ?_
      obtain ⟨A, hA, hn, hr, hc⟩ := H4.callM (i := 1) rfl
      refine (put_ok (bytes := 2) hA hr hn (by omega) (by simp)).mono ?_
      rintro _ w5 ⟨r_a1, r_c1, rfl, K⟩; have H5 := (hc K).imp fun _ h => h.2
      clear K hc hr hn hA A H4
      refine ⟨_, _, _, rfl, ?_⟩
      have e2 : putB 2 p_3 = [p_3 / 256, p_3 % 256] := by rw [putB2]; simp only [List.cons.injEq, and_true]; omega
      rw [e2] at H5 ⊢
      refine H5.ldS (i := 0) rfl rfl ?_
      refine H5.appI (i := 1) rfl sl_Ty_S_uint8 (hs.below H5.below) (by simp; omega) (by simp; omega) ?_; intro x_a1 x_c1 w6 H6
      exact ⟨x_a1, x_c1, H6.capI (i := 1) rfl, rfl, H6.only (i := 1) rfl⟩
    · have c : p_1 = 0 ∨ p_1 = 1 := Decidable.byContradiction fun h => by rw [if_neg h] at c; omega
      simp only [if_pos c]
      refine H4.ldS (i := 0) rfl rfl ?_
      refine H4.appI (i := 1) rfl sl_Ty_S_uint8 (hs.below H4.below) (by simp; omega) (by simp; omega) ?_; intro x_a3 x_c3 w7 H7
      exact ⟨x_a3, x_c3, H7.capI (i := 1) rfl, rfl, H7.only (i := 1) rfl⟩
end
def RetCBO (A : Nat → Prop) (w : World) (x : Cu × List Int × Int) (e : Ending) (w' : World) : Prop :=
  ∃ a c L ba bc, L.map (·.d) = x.1.q ∧ e = .returned (.tuple #[aggCu x.1 a c, .slice ba x.2.1.length bc, .int .i64 x.2.2]) ∧ x.2.1.length ≤ bc ∧ x.1.q.length ≤ c ∧ St A [] w w' [.ints Ty_uint8 .u8 ba bc x.2.1] (QL L a)
section
variable {x : Cu} {a : Option Addr} {c : Nat} {w : World} {size : Int}
theorem ref23_Build_own {A : Nat → Prop} {L : List BL} (hL : L.map (·.d) = x.q) (hQ : Held A w (QL L a)) (hm : SmQ x.q) (hxc : x.q.length ≤ c) (hsz : -9223372036854775808 ≤ size ∧ size ≤ 9223372036854775807) :
    Calls Tryz.prog N_ref23_Build #[aggCu x a c, .int .i64 size] w (RetCBO A w (buildC x size)) := by
  apply F_ref23_Build_ok
  unfold F_ref23_Build
  have H := St.start hQ
  have hq' : ∀ {w}, QL L a w → QR w a x.q := fun h => by rw [← hL]; exact h.qr
  have hLl : L.length = x.q.length := by rw [← hL, List.length_map]
  refine H.alloc ?_; clear H; intro b w1 H1
  refine H1.alloc ?_; clear H1; intro b1 w2 H2
  refine ⟨_, _, _, _, _, _, H2.cells (i := 0) rfl, ?_⟩
  refine (ref23_Valid_ct (hq' H2.get) hm).mono ?_
  rintro _ w3 ⟨rfl, hb3⟩; have H3 := H2.pass hb3; clear H2
  refine ⟨_, rfl, ?_⟩
  replace H3 : St A [] w w3 [.blk b Ty_api_Cutter (encCu x a c), .blk b1 Ty_api_Cutter [.int .i64 0, .int .i64 0, .slice none 0 0, .int .i64 0]] (QL L a) := H3
  have fin : ∀ {w' : World} {T : List Res} {E : Int} {P : World → Prop}, buildC x size = (x, [], E) → (∀ w, P w → QL L a w) → St A [] w w' (.blk b Ty_api_Cutter (encCu x a c) :: .blk b1 Ty_api_Cutter [.int .i64 0, .int .i64 0, .slice none 0 0, .int .i64 0] :: T) P →
      sxStore w' ⟨b1, 0, none⟩ 0 (encCu x a c) fun w7 => ∃ x_0 x_1 x_a x_l x_c x_3, cellsAt w7 ⟨b1, 0, none⟩ 0 [.int .i64 x_0, .int .i64 x_1, .slice x_a x_l x_c, .int .i64 x_3] ∧
        RetCBO A w (buildC x size) (.returned (.tuple #[.agg #[.int .i64 x_0, .int .i64 x_1, .slice x_a x_l x_c, .int .i64 x_3], .slice none 0 0, .int .i64 E])) w7 := fun {w' T E P} hE hP H => by
    refine H.store (i := 1) rfl (by rfl) (by rfl) ?_; intro w7 H7
    refine ⟨_, _, _, _, _, _, H7.cells (i := 1) rfl, ?_⟩
    rw [hE]
    exact ⟨a, c, L, none, 0, hL, rfl, Nat.le_refl _, hxc, (H7.nilI Ty_uint8 .u8).lastOnly.imp hP⟩
  refine bsplit_nd (fun c6 => ?_) (fun c6 => ?_)
  · refine ⟨_, _, _, _, _, _, H3.cells (i := 0) rfl, ?_⟩
    exact fin (by unfold buildC; rw [if_pos c6]) (fun _ h => h) H3
  · refine ⟨fun x1 w8 => (x1 = true ↔ size < 0 ∨ size > 4096) ∧ St A [] w w8 [.blk b Ty_api_Cutter (encCu x a c), .blk b1 Ty_api_Cutter [.int .i64 0, .int .i64 0, .slice none 0 0, .int .i64 0]] (QL L a), ?_, ?_⟩
    · rintro _ x1 w5 ⟨hj, H5⟩
      refine bsplit_intro (fun c5 => ?_) (fun c5 => ?_)
      · refine ⟨_, _, _, _, _, _, H5.cells (i := 0) rfl, ?_⟩
        exact fin (by unfold buildC; rw [if_neg (fun h => h c6), if_pos (hj.1 c5)]) (fun _ h => h) H5
      · have hsz2 : ¬ (size < 0 ∨ size > 4096) := fun h => by rw [hj.2 h] at c5; cases c5
        refine H5.ldS (i := 0) rfl rfl ?_
        refine kLet_in ?_
        refine bsplit_dec (fun c4 => ?_) (fun c4 => ?_)
        · refine ⟨_, _, _, _, _, _, H5.cells (i := 0) rfl, ?_⟩
          have hq : x.q = [] := List.eq_nil_of_length_eq_zero (by omega)
          exact fin (by unfold buildC; rw [if_neg (fun h => h c6), if_neg hsz2, hq]) (fun _ h => h) H5
        · obtain ⟨d, l, hq⟩ : ∃ d l, x.q = d :: l := by
            cases hq : x.q with
            | nil => rw [hq] at c4; simp at c4
            | cons d l => exact ⟨d, l, rfl⟩
          obtain ⟨y, L', hLe⟩ : ∃ y L', L = y :: L' := by
            cases hLe : L with
            | nil => rw [hLe, hq] at hLl; simp at hLl
            | cons y L' => exact ⟨y, L', rfl⟩
          have hyd : y.d = d ∧ L'.map (·.d) = l := by
            rw [hLe, hq] at hL
            injection hL with h1 h2
            exact ⟨h1, h2⟩
          have hym : y ∈ L := by rw [hLe]; simp
          have hyl : y.d.length = d.length := by rw [hyd.1]
          have hro := rest_ok c6 hq
          have hdo := c6.2.2.2.2.1 d (by rw [hq]; simp)
          obtain ⟨hd1, hd2⟩ := hdo
          have hs0 := c6.2.2.2.1
          have hs1 : x.sent < d.length := by have h := c6.2.2.2.2.2; unfold headOk at h; rw [hq] at h; exact h
          obtain ⟨cu, hcu⟩ : ∃ cu, cu = cutP x.bits (restP x d) size := ⟨_, rfl⟩
          have hB : buildC x size = if cu.2.2 ≠ 0 then (x, [], cu.2.2) else (afterC x d l cu.1.data.length, (encP x.bits cu.1).1, 0) := by
            unfold buildC; rw [if_neg (fun h => h c6), if_neg hsz2, hq, hcu]
          have hbb := c6.1
          obtain ⟨hbb1, hbb2⟩ := hbb
          have hnx := c6.2.1
          have hpw := pow_bits c6.1
          have hq256 := c6.2.2.1
          have hix : ∀ {w' : World} {F : Addr → Prop}, QL L a w' → (∀ b7, CE encBL w' (b7.add ((0 : Int).toNat * 1)) y → F b7) → kIx a x.q.length 0 F := fun {w' F} h hF => by
            rw [← hLl]
            refine ixE h.1 0 rfl (by omega) fun b7 z hz hb7 => ?_
            obtain rfl : y = z := by rw [hLe] at hz; exact Option.some.inj hz
            exact hF b7 hb7
          have hrl : y.d.length - x.sent.toNat = (restP x d).data.length := by show _ = (d.drop _).length; rw [hyl]; simp
          have hda : ∀ {w}, QL L a w → SlR (IntC .u8) 1 w (slAddr y.c x.sent.toNat 1 y.a) (restP x d).data := fun h => by
            have h1 := (h.2 y hym).1.cut (h.2 y hym).2 (l := x.sent.toNat) (y.d.drop x.sent.toNat).length
            rw [List.take_length, hyd.1] at h1
            exact h1
          have hcp : (restP x d).data.length ≤ y.c - x.sent.toNat := by
            have := (H5.get.2 y hym).2
            rw [← hrl]; omega
          refine ⟨fun p w13 => ∃ bp : Nat, p = (⟨bp, 0, none⟩ : Addr) ∧ St A [] w w13 [.blk b Ty_api_Cutter (encCu x a c), .blk b1 Ty_api_Cutter [.int .i64 0, .int .i64 0, .slice none 0 0, .int .i64 0], .blk bp Ty_api_Piece [.int .i64 x.next, .int .i64 0, .int .i64 0, .int .i64 x.sent, .slice (slAddr y.c x.sent.toNat 1 y.a) (restP x d).data.length (y.c - x.sent.toNat)]] (QL L a), ?_, ?_⟩
          · rintro _ _ w13 ⟨bp, rfl, H13⟩
            clear H5
            refine ⟨fun w15 => St A [] w w15 [.blk b Ty_api_Cutter (encCu x a c), .blk b1 Ty_api_Cutter [.int .i64 0, .int .i64 0, .slice none 0 0, .int .i64 0], .blk bp Ty_api_Piece [.int .i64 x.next, .int .i64 (if x.sent = 0 then 0 else 2), .int .i64 0, .int .i64 x.sent, .slice (slAddr y.c x.sent.toNat 1 y.a) (restP x d).data.length (y.c - x.sent.toNat)]] (QL L a), ?_, ?_⟩
            · rintro _ w15 H15
              clear H13
              refine H15.ld (i := 0) rfl rfl ?_
              refine ⟨_, _, _, _, _, _, _, H15.cells (i := 2) rfl, ?_⟩
              have C := ref18_Cut_ct (bits := x.bits) (p_0 := x.next) (p_1 := if x.sent = 0 then 0 else 2) (p_2 := 0) (p_3 := x.sent) (p_4_c := y.c - x.sent.toNat) (hda H15.get) (by omega) hcp hsz
              have e1 : (⟨x.next, if x.sent = 0 then 0 else 2, 0, x.sent, (restP x d).data⟩ : Pc) = restP x d := rfl
              rw [e1, ← hcu] at C
              refine C.mono ?_; clear C
              rintro _ w16 ⟨pa, pc, pa', pc', hpc, hpc', rfl, K⟩; have H16 := H15.callF K; clear K H15
              rw [List.append_nil] at H16
              refine ⟨_, _, _, _, _, _, _, _, _, _, _, _, _, _, _, rfl, ?_⟩
              refine H16.alloc ?_; clear H16; intro b5 w17 H17
              refine H17.alloc ?_; clear H17; intro b6 w18 H18
              simp only [List.cons_append, List.nil_append] at H18
              refine H18.store (i := 3) rfl (by rfl) (by rfl) ?_; clear H18; intro w19 H19
              refine H19.store (i := 4) rfl (by rfl) (by rfl) ?_; clear H19; intro w20 H20
              replace H20 : St A [] w w20 [.blk b Ty_api_Cutter (encCu x a c), .blk b1 Ty_api_Cutter [.int .i64 0, .int .i64 0, .slice none 0 0, .int .i64 0], .blk bp Ty_api_Piece [.int .i64 x.next, .int .i64 (if x.sent = 0 then 0 else 2), .int .i64 0, .int .i64 x.sent, .slice (slAddr y.c x.sent.toNat 1 y.a) (restP x d).data.length (y.c - x.sent.toNat)], .blk b5 Ty_api_Piece (encPc cu.1 pa pc)] (fun w => SlR (IntC .u8) 1 w pa cu.1.data ∧ QL L a w) := (St.dropLast (R := [_, _, _, _]) H20).imp fun _ h => ⟨h.1.1, h.2⟩
              refine bsplit_nd (fun c3 => ?_) (fun c3 => ?_)
              · refine ⟨_, _, _, _, _, _, H20.cells (i := 0) rfl, ?_⟩
                exact fin (by rw [hB, if_pos c3]) (fun _ h => h.2) H20
              · have hc0 : (cutP x.bits (restP x d) size).2.2 = 0 := by rw [← hcu]; simpa using c3
                obtain ⟨k1, k2, k3⟩ := cut_ok hro hc0
                rw [← hcu] at k1 k2 k3
                have k4 : cu.1.data.length ≤ d.length := by
                  have := congrArg List.length k2
                  rw [List.length_take] at this
                  have h2 : (restP x d).data.length ≤ d.length := by show (d.drop _).length ≤ _; simp
                  omega
                have hB2 : buildC x size = (afterC x d l cu.1.data.length, cu.1.bytes, 0) := by rw [hB, if_neg (fun h => h c3), enc_ok k1]
                refine H20.ld (i := 0) rfl rfl ?_
                refine ⟨_, _, _, _, _, _, _, H20.cells (i := 3) rfl, ?_⟩
                have C := ref18_Encode_own (bits := x.bits) (p_0 := cu.1.sn) (p_1 := cu.1.part) (p_2 := cu.1.poll) (p_3 := cu.1.off) (p_4_c := pc) H20.get.1 (by omega)
                have e1 : (⟨cu.1.sn, cu.1.part, cu.1.poll, cu.1.off, cu.1.data⟩ : Pc) = cu.1 := rfl
                rw [e1, enc_ok k1] at C
                refine C.mono ?_; clear C
                rintro _ w22 ⟨ra, rc, hrc, rfl, K⟩; have H22 := H20.callR K; clear K H20
                simp only [List.cons_append, List.nil_append] at H22
                refine ⟨_, _, _, _, rfl, ?_⟩
                refine H22.ld (i := 0) rfl rfl ?_
                refine H22.ldS (i := 3) rfl rfl ?_
                refine kW_i64 (by omega) ?_
                refine H22.set (i := 0) rfl (by show 3 < 4; decide) ?_; clear H22; intro w23 H23
                refine H23.drew ?_; clear H23; intro w24 H24
                replace H24 : St A [] w w24 [.blk b Ty_api_Cutter [.int .i64 x.bits, .int .i64 x.next, .slice a x.q.length c, .int .i64 (x.sent + cu.1.data.length)], .blk b1 Ty_api_Cutter [.int .i64 0, .int .i64 0, .slice none 0 0, .int .i64 0], .ints Ty_uint8 .u8 ra rc cu.1.bytes] (QL L a) := (St.skip (X := [_, _]) (St.skip (X := [_, _]) H24)).imp fun _ h => h.2
                refine H24.ld (i := 0) rfl rfl ?_
                refine H24.ldS (i := 0) rfl rfl ?_
                refine hix H24.get fun b7 hb7 => ?_
                refine ⟨_, _, _, hb7.1, ?_⟩
                refine bsplit_dec (fun c2 => ?_) (fun c2 => ?_)
                · have ha : afterC x d l cu.1.data.length = { x with q := l, sent := 0, next := (x.next + 1) % 2 ^ x.bits.toNat } := by unfold afterC; rw [if_pos (by rw [hyd.1] at c2; exact c2)]
                  refine H24.set (i := 0) rfl (by show 3 < 4; decide) ?_; clear H24; intro w25 H25
                  refine H25.ld (i := 0) rfl rfl ?_
                  refine kW_i64 (by omega) ?_
                  refine H25.ld (i := 0) rfl rfl ?_
                  refine kW_u64 (by omega) ?_
                  refine ⟨by omega, ?_⟩
                  refine kShl1 (by omega) ?_
                  refine ⟨by omega, ?_⟩
                  refine kTmod (by omega) ?_
                  refine H25.set (i := 0) rfl (by show 1 < 4; decide) ?_; clear H25; intro w26 H26
                  refine H26.alloc ?_; clear H26; intro b8 w27 H27
                  simp only [List.set_cons_zero, List.cons_append, List.nil_append, List.set_cons_succ] at H27
                  have H27 := H27.litE encBL_ok (i := 3) [] rfl (by decide)
                  refine H27.ldS (i := 0) rfl rfl ?_
                  refine ⟨⟨by omega, by omega⟩, ?_⟩
                  have el : x.q.length - (1 : Int).toNat = L'.length := by rw [← hLl, hLe]; simp
                  rw [el]
                  have hcc : L.length ≤ c := by omega
                  have hs1 : SlR (CE encBL) 1 w27 (slAddr c (1 : Int).toNat 1 a) L' := by
                    have h1 := H27.get.1.cutE hcc (L.drop 1).length (l := 1)
                    have e2 : (L.drop 1).take (L.drop 1).length = L' := by rw [List.take_length, hLe]; rfl
                    rw [e2] at h1
                    exact h1
                  refine H27.appE encBL_ok (i := 3) rfl sl_Ty_S_S_uint8 hs1 (by simp; omega) (by simp; omega) ?_
                  intro x_a7 x_c7 w28 H28
                  simp only [List.set_cons_succ, List.set_cons_zero, List.nil_append] at H28
                  refine H28.set (i := 0) rfl (by show 2 < 4; decide) ?_; clear H28; intro w29 H29
                  refine ⟨_, _, _, _, _, _, H29.cells (i := 0) rfl, ?_⟩
                  refine H29.store (i := 1) rfl (by rfl) (by rfl) ?_; clear H29; intro w30 H30
                  refine ⟨_, _, _, _, _, _, H30.cells (i := 1) rfl, ?_⟩
                  rw [hB2, ha]
                  have el2 : L'.length = l.length := by rw [← hyd.2, List.length_map]
                  refine ⟨x_a7, x_c7, L', ra, rc, hyd.2, ?_, hrc, ?_, ?_⟩
                  · rw [List.nil_append, el2]
                  · have := H30.capE (i := 3) rfl
                    show l.length ≤ _
                    rw [← el2]; exact this
                  · have K := (H30.shareE encBL_ok (i := 3) rfl).only (i := 2) rfl
                    exact K.imp fun w h => ⟨h.1, fun z hz => h.2.2 z (by rw [hLe]; simp [hz])⟩
                · have ha : afterC x d l cu.1.data.length = { x with sent := x.sent + cu.1.data.length } := by unfold afterC; rw [if_neg (by rw [hyd.1] at c2; exact c2)]
                  refine ⟨_, _, _, _, _, _, H24.cells (i := 0) rfl, ?_⟩
                  refine H24.store (i := 1) rfl (by rfl) (by rfl) ?_; clear H24; intro w31 H31
                  refine ⟨_, _, _, _, _, _, H31.cells (i := 1) rfl, ?_⟩
                  rw [hB2, ha]
                  exact ⟨a, c, L, ra, rc, hL, rfl, hrc, hxc, H31.only (i := 2) rfl⟩
            · refine H13.ld (i := 0) rfl rfl ?_
              refine bsplit_dec (fun c1 => ?_) (fun c1 => ?_)
              · try rw [add_mk]
                refine H13.set (i := 2) rfl (by show 1 < 5; decide) ?_; clear H13; intro w14 H14
                rw [if_neg (by omega)]
                exact H14
              · rw [if_pos (by omega)]
                exact H13
          · refine H5.drew ?_; clear H5; intro w8 H8
            refine ⟨(· < w8.heap.size), ?_⟩
            refine ⟨H8.lt (i := 0) rfl rfl, ?_⟩
            refine H8.ld (i := 0) rfl rfl ?_
            refine ⟨H8.lt (i := 0) rfl rfl, ?_⟩
            refine H8.ld (i := 0) rfl rfl ?_
            refine ⟨H8.lt (i := 0) rfl rfl, ?_⟩
            refine H8.ldS (i := 0) rfl rfl ?_
            refine hix H8.get fun b7 hb7 => ?_
            refine ⟨cell_lt hb7.1, ?_⟩
            refine ⟨_, _, _, hb7.1, ?_⟩
            refine ⟨H8.lt (i := 0) rfl rfl, ?_⟩
            refine H8.ld (i := 0) rfl rfl ?_
            refine ⟨⟨by omega, by omega⟩, ?_⟩
            rw [hrl]
            refine ⟨?_, ?_, trivial⟩
            · refine ⟨KeepsB.refl _ _, ?_⟩
              refine H8.allocB ?_; intro b3 w9 hb9 H9
              refine ⟨hb9.keeps, ?_⟩
              refine H9.store (i := 2) rfl (by rfl) (by rfl) ?_; intro w10 H10
              exact ⟨b3, rfl, H10⟩
            · refine H8.allocB ?_; intro b4 w11 hb11 H11
              refine ⟨hb11.keeps, ?_⟩
              refine ⟨hb11.keeps, ?_⟩
              refine H11.store (i := 2) rfl (by rfl) (by rfl) ?_; intro w12 H12
              exact ⟨b4, rfl, H12⟩
    · refine bsplit_dec (fun c => ?_) (fun c => ?_)
      · exact ⟨⟨fun _ => .inl c, fun _ => rfl⟩, H3⟩
      · refine kLet_in ?_
        exact ⟨by rw [decide_eq_true_iff]; omega, H3⟩
end
end Go.Proofs.YtlgolgpellbnbaaGreat
namespace Go.Sx
theorem pcb_len (p : Pc) : 1 ≤ p.bytes.length ∧ p.bytes.length ≤ p.data.length + 4 := by
  unfold Pc.bytes
  split <;> simp
theorem build_lenS {c : Cu} {size : Int} : (buildC c size).2.1.length ≤ 3000 ∧ ((buildC c size).2.2 = 0 → 1 ≤ (buildC c size).2.1.length) := by
  unfold buildC
  by_cases h1 : cuOk c
  · rw [if_neg (fun k => k h1)]
    by_cases h2 : size < 0 ∨ size > 4096
    · rw [if_pos h2]; exact ⟨by simp, fun h => by simp at h⟩
    rw [if_neg h2]
    cases hq : c.q with
    | nil => exact ⟨by simp, fun h => by simp at h⟩
    | cons d l =>
      dsimp only
      by_cases h3 : (cutP c.bits (restP c d) size).2.2 ≠ 0
      · rw [if_pos h3]; exact ⟨by simp, fun h => absurd h h3⟩
      rw [if_neg h3]
      have hk := (cut_ok (rest_ok h1 hq) (by simpa using h3)).1
      have hp := pcb_len (cutP c.bits (restP c d) size).1
      have h5 := hk.2.2.2.2.2.2.2
      have h6 := hk.2.2.2.2.2.1.1
      have e : encP c.bits (cutP c.bits (restP c d) size).1 = ((cutP c.bits (restP c d) size).1.bytes, 0) := by unfold encP; rw [if_pos hk]
      rw [e]
      exact ⟨by show (cutP c.bits (restP c d) size).1.bytes.length ≤ 3000; omega, fun _ => hp.1⟩
  · rw [if_pos h1]; exact ⟨by simp, fun h => by simp at h⟩
theorem encP_bytesS {b : Int} {p : Pc} (h : Bytes p.data) : Bytes (encP b p).1 := by
  unfold encP
  split
  · rename_i hp
    have hf := Pc.first_range hp
    obtain ⟨_, _, _, _, _, ho, _⟩ := hp
    rw [bytes_mem] at h ⊢
    intro x hx
    unfold Pc.bytes at hx
    simp only [List.mem_append] at hx
    rcases hx with (hx | hx) | hx
    · simp at hx; omega
    · split at hx
      · simp at hx
      · simp at hx; omega
    · exact h x hx
  · exact bytes_nil
theorem build_bytesS {c : Cu} {size : Int} (h : ∀ d ∈ c.q, Bytes d) : Bytes (buildC c size).2.1 := by
  unfold buildC
  by_cases h1 : cuOk c
  · rw [if_neg (fun k => k h1)]
    by_cases h2 : size < 0 ∨ size > 4096
    · rw [if_pos h2]; exact bytes_nil
    · rw [if_neg h2]
      cases hq : c.q with
      | nil => exact bytes_nil
      | cons d l =>
        dsimp only
        by_cases h3 : (cutP c.bits (restP c d) size).2.2 = 0
        · rw [if_neg (fun k => k h3)]
          obtain ⟨_, k2, _⟩ := cut_ok (rest_ok h1 hq) h3
          refine encP_bytesS ?_
          rw [k2]
          have hd : Bytes (restP c d).data := by
            have := bytes_mem.1 (h d (by rw [hq]; simp))
            exact bytes_mem.2 fun x hx => this x (List.mem_of_mem_drop hx)
          exact bytes_mem.2 fun x hx => bytes_mem.1 hd x (List.mem_of_mem_take hx)
        · rw [if_pos h3]; exact bytes_nil
  · rw [if_pos h1]; exact bytes_nil
end Go.Sx
namespace Go.Proofs.YtlgolgpellbnbaaGreat
open Go.Sx Go.RowKit
set_option maxRecDepth 100000
structure RunsS (c : Cu) : Prop where
  sm : SmQ c.q
  by_ : ∀ d ∈ c.q, Bytes d
structure RunsR (r : Rc) : Prop where
  gp : GP r.parts
  fit : FitP r.parts
  pl : plainR r = r
theorem runs_sub {c : Cu} {d : List Int} (h : RunsS c) (hd : Bytes d) (hl : d.length ≤ 140737488355328) : RunsS (subC c d).1 := by
  refine ⟨sub_sm h.sm hl, fun e he => ?_⟩
  unfold subC at he
  split at he
  · exact h.by_ e he
  split at he
  · exact h.by_ e he
  split at he
  · exact h.by_ e he
  rcases List.mem_append.1 he with k | k
  · exact h.by_ e k
  · obtain rfl : e = d := by simpa using k
    exact hd
theorem runs_build {c : Cu} {size : Int} (h : RunsS c) : RunsS (buildC c size).1 := by
  refine ⟨build_sm h.sm, fun e he => h.by_ e ?_⟩
  unfold buildC at he
  split at he
  · exact he
  split at he
  · exact he
  split at he
  · exact he
  · rename_i d l hq
    split at he
    · exact he
    · unfold afterC at he
      split at he
      · rw [hq]; exact List.mem_cons_of_mem _ he
      · exact he
theorem exp_sub (s : Rc) : (expS s).parts.length ≤ s.parts.length ∧ ∀ x ∈ (expS s).parts, x ∈ s.parts := by
  have e : (expS s).parts = (dropS s.lk.bits s.mark (expL s)).2 := by unfold expS; split <;> rfl
  rw [e]
  obtain ⟨h1, h2⟩ := dropS_sub s.lk.bits (expL s) s.mark
  have h3 : (expL s).length ≤ s.parts.length := List.length_filter_le _ _
  exact ⟨by omega, fun x hx => (List.mem_filter.1 (h2 x hx)).1⟩
theorem runs_tick {s : Rc} (h : RunsR s) : RunsR (tickU s).1 := by
  unfold tickU
  split
  · exact h
  split
  · exact ⟨h.gp, h.fit, rfl⟩
  split
  · obtain ⟨h1, h2⟩ := exp_sub { s with left := s.left - 1 }
    have g := h.gp
    have f := h.fit
    exact ⟨⟨Nat.le_trans h1 g.1, fun x hx => g.2 x (h2 x hx)⟩, ⟨Nat.le_trans h1 f.1, fun x hx => f.2 x (h2 x hx)⟩, rfl⟩
  · exact ⟨h.gp, h.fit, rfl⟩
theorem runs_rec {s : Rc} {bs : List Int} (h : RunsR s) (hB : Bytes bs) : RunsR (plainR (recS s bs).1) ∧ (if (recS s bs).2.2 = 1 then (recS s bs).1 else plainR (recS s bs).1) = plainR (recS s bs).1 := by
  obtain ⟨g1, g2⟩ := rec_gp h.gp hB
  refine ⟨⟨g1, ?_, rfl⟩, ?_⟩
  · show FitP (recS s bs).1.parts
    by_cases hok : s.okB = false
    · unfold recS
      rw [if_pos hok]
      exact ⟨by show (0 : Nat) ≤ 600; omega, fun x hx => by cases hx⟩
    · exact (rc_fit (rec_ok (by simpa using hok) fun b bs h => decP_good h)).1
  · split
    · rename_i he
      unfold recS at he ⊢
      by_cases h1 : s.okB = false
      · rw [if_pos h1]; rfl
      rw [if_neg h1] at he ⊢
      dsimp only at he ⊢
      by_cases h2 : (decP s.lk.bits bs).2 ≠ 0
      · rw [if_pos h2]; exact h.pl.symm
      rw [if_neg h2] at he ⊢
      by_cases h3 : refusedS s (decP s.lk.bits bs).1 ≠ 0
      · rw [if_pos h3] at he
        exfalso
        replace he : refusedS s (decP s.lk.bits bs).1 = 1 := he
        unfold refusedS at he
        repeat' split at he
        all_goals omega
      · rw [if_neg h3] at he
        replace he : (0 : Int) = 1 := he
        omega
    · rfl
theorem runs_new {n wait : Int} : RunsS (newU n wait).1 ∧ RunsR (newU n wait).2.1 := by
  have e : (newU n wait).1.q = [] ∧ (newU n wait).2.1.parts = [] ∧ plainR (newU n wait).2.1 = (newU n wait).2.1 := by unfold newU; split <;> exact ⟨rfl, rfl, rfl⟩
  obtain ⟨e1, e2, e3⟩ := e
  refine ⟨⟨?_, ?_⟩, ?_, ?_, e3⟩
  · rw [e1]; exact ⟨Nat.zero_le _, fun d hd => by cases hd⟩
  · rw [e1]; exact fun d hd => by cases hd
  · rw [e2]; exact gp_nil
  · rw [e2]; exact ⟨Nat.zero_le _, fun x hx => by cases hx⟩
theorem held_paR {A : Nat → Prop} {w : World} {P : World → Prop} {a : Option Addr} {Ps : List Pa} (h : Held A w P) (hp : ∀ w, P w → PaR w a Ps) :
    ∃ L : List PP, L.map (·.p) = Ps ∧ Held A w fun w => SlR (CE encPP) 5 w a L ∧ DaP L w ∧ CoR L w := by
  classical
  obtain ⟨w0, hw0⟩ : ∃ w0 : World, w0 = { w with heap := w.heap.mapIdx fun b o => if A b then o else .cells #[] 0 } := ⟨_, rfl⟩
  have hA : ∀ b, A b → w0.heap[b]? = w.heap[b]? := fun b hb => by
    rw [hw0]
    show (w.heap.mapIdx _)[b]? = _
    rw [Array.getElem?_mapIdx]
    cases w.heap[b]? with
    | none => rfl
    | some o => show some (if A b then o else _) = some o; rw [if_pos hb]
  have hn : ∀ (p : Addr) (v : Value), w0.cell? p = some v → A p.block := fun p v hv => by
    by_cases hb : A p.block
    · exact hb
    · exfalso
      unfold World.cell? at hv
      have e : w0.heap[p.block]? = w.heap[p.block]?.map fun _ => Obj.cells #[] 0 := by
        rw [hw0]
        show (w.heap.mapIdx _)[p.block]? = _
        rw [Array.getElem?_mapIdx]
        cases w.heap[p.block]? with
        | none => rfl
        | some o => show some (if A p.block then o else _) = some _; rw [if_neg hb]
      rw [e] at hv
      cases hq : w.heap[p.block]? with
      | none => rw [hq] at hv; cases hv
      | some o =>
        rw [hq] at hv
        simp at hv
  obtain ⟨L, h1, h2, h3, h4⟩ := paR_up (hp _ (h.out w0 hA))
  refine ⟨L, h1, h.lt, fun w' hw => ?_⟩
  have hk : ∀ (p : Addr) (v : Value), w0.cell? p = some v → w'.cell? p = some v := fun p v hv => by
    have hb := hn p v hv
    exact (World.cell?_of_block (w := w0) ((hw p.block hb).trans (hA p.block hb).symm)).trans hv
  have hc : ∀ {α : Type} {enc : α → List Value} (p : Addr) (x : α), CE enc w0 p x → CE enc w' p x := fun p x hx => cellsAt_keep (fun q u hq _ => hk q u hq) hx
  exact ⟨h2.keep hc, fun x hx => ⟨(h3 x hx).1.keep fun p y hy => hk _ _ hy, (h3 x hx).2⟩, fun x hx => (h4 x hx).keep hc⟩
section
variable {A0 : Nat → Prop} {M : List Nat} {w0 w : World} {R : List Res} {P : World → Prop} {i g : Nat} {a : Option Addr} {c : Nat} {ts : List Int} {p : Nat}
theorem rRest (H : St A0 M w0 w R P) (hi : R[i]? = some (rdice g a c ts p)) (hp : p ≤ ts.length) (ht : ts.length ≤ 1000000) :
    Calls Tryz.prog N_roll_Dice_Rest #[(.pointer (some ⟨g, 0, none⟩))] w fun e w' => (∃ v : Int, e = .returned (.int .i64 v)) ∧ Below w.heap.size w w' := by
  apply F_roll_Dice_Rest_ok
  unfold F_roll_Dice_Rest
  have hb1 : Below w.heap.size w w.drew := ⟨rfl, rfl, rfl, Nat.le_refl _, fun _ _ => rfl⟩
  have H1 := H.pass hb1
  show kLdS _ _ _
  refine H1.ldS (i := i) hi rfl ?_
  refine H1.ld (i := i) hi rfl ?_
  refine kW_i64 (by omega) ?_
  refine kLet_in ?_
  exact ⟨⟨_, rfl⟩, hb1⟩
end

abbrev RunS (w : World) (g b b1 : Nat) (ta : Option Addr) (tc : Nat) (ts : List Int) (w' : World) : Prop :=
  ∃ (p : Nat) (c : Cu) (L : List BL) (ca : Option Addr) (cc : Nat) (r : Rc) (ra : Option Addr) (rc : Nat), L.map (·.d) = c.q ∧ c.q.length ≤ cc ∧ RunsS c ∧ RunsR r ∧ p ≤ ts.length ∧
    St (fun _ => False) [] w w' [rdice g ta tc ts p, .blk b Ty_api_Cutter (encCu c ca cc), .blk b1 Ty_api_Receiver (encRc r ra rc)] (fun w => QL L ca w ∧ PaR w ra r.parts ∧ SlR (IntC .i64) 1 w ta ts)
section
variable {l_a : Option Addr} {l_c : Nat} {ls : List Int} {w : World}
theorem law23_UnackRuns_ct (hls : SlR (IntC .i64) 1 w l_a ls) :
    Calls Tryz.prog N_law23_UnackRuns #[.slice l_a ls.length l_c] w fun e w' => e = .returned (.bool true) ∧ Below w.heap.size w w' := by
  apply F_law23_UnackRuns_ok
  unfold F_law23_UnackRuns
  have H := St.nil w
  refine roll_Light_ct.mono ?_
  rintro _ w1 ⟨rfl, hb1⟩; have H1 := H.pass hb1; clear H
  refine ⟨_, rfl, ?_⟩
  refine bsplit_n (fun c1 => awakeTo H1) (fun c1 => ?_)
  have hl300 : ls.length ≤ 300 := by have := of_decide_eq_true c1; omega
  refine (roll_Roll_ct (hls.below H1.below) (by omega)).mono ?_
  rintro _ w3 ⟨g, ta, tc, rfl, K⟩; have H3 := H1.callF K; clear H1 K
  rw [List.nil_append] at H3
  refine ⟨_, rfl, ?_⟩
  have hR3 : Rolls ta ls (fun w => SlR (IntC .i64) 1 w ta ls ∧ True) := ⟨fun w h => h.1, by omega⟩
  refine rNext H3 (i := 0) rfl hR3 (Nat.zero_le _) (by omega) fun v3 p4 w4 _ hv3 hp4 H4 => ?_
  have hv3 := hv3 (by omega)
  clear H3
  refine kW_i64 (by omega) ?_
  refine rNext H4 (i := 0) rfl hR3 hp4 (by omega) fun v4 p5 w5 _ hv4 hp5 H5 => ?_
  have hv4 := hv4 (by omega)
  clear H4
  refine kW_i64 (by omega) ?_
  refine (ref23_New_ct (n := 5 + v3) (wait := 1 + v4)).mono ?_
  obtain ⟨hnS, hnR⟩ := runs_new (n := 5 + v3) (wait := 1 + v4)
  have hpq : (newU (5 + v3) (1 + v4)).1.q = [] ∧ (newU (5 + v3) (1 + v4)).2.1.parts = [] := by unfold newU; split <;> exact ⟨rfl, rfl⟩
  obtain ⟨u, hu⟩ : ∃ u, u = newU (5 + v3) (1 + v4) := ⟨_, rfl⟩
  rw [← hu] at hnS hnR hpq ⊢
  rintro _ w6 ⟨rfl, hb6⟩; have H6 := H5.pass hb6; clear H5
  refine ⟨_, _, _, _, _, _, _, _, _, _, _, _, _, _, _, _, _, _, _, _, _, _, _, rfl, ?_⟩
  refine H6.alloc ?_; clear H6; intro b w7 H7
  refine H7.alloc ?_; clear H7; intro b1 w8 H8
  simp only [List.set_cons_zero, List.cons_append, List.nil_append] at H8
  refine H8.store (i := 1) rfl (by rfl) (by rfl) ?_; clear H8; intro w9 H9
  refine H9.store (i := 2) rfl (by rfl) (by rfl) ?_; clear H9; intro w10 H10
  replace H10 : RunS w g b b1 ta tc ls w10 := by
    refine ⟨p5, u.1, [], none, 0, u.2.1, none, 0, hpq.1.symm, by rw [hpq.1]; exact Nat.zero_le _, hnS, hnR, hp5, ?_⟩
    refine St.imp (P := fun w => SlR (IntC .i64) 1 w ta ls ∧ True) ?_ fun w h => ⟨⟨.nil, fun x hx => by cases hx⟩, by rw [hpq.2]; exact .nil, h.1⟩
    simp only [List.set_cons_succ, List.set_cons_zero] at H10
    exact H10
  refine ⟨fun i => ((80 - i).toNat, fun w11 => 0 ≤ i ∧ RunS w g b b1 ta tc ls w11), ⟨Int.le_refl _, H10⟩, ?_⟩
  clear H10
  rintro _ i w11 ⟨hi0, p, c, L, ca, cc, r, ra, rc, hL, hcc, hS, hrR, hp, H11⟩
  refine ⟨fun w15 => i < 80 ∧ RunS w g b b1 ta tc ls w15, ?_, ?_⟩
  · clear H11 hL hcc hS hrR hp
    rintro _ w15 ⟨hi, p, c, L, ca, cc, r, ra, rc, hL, hcc, hS, hrR, hp, H15⟩
    have hRo : ∀ {Q : World → Prop}, Rolls ta ls (fun w => Q w ∧ SlR (IntC .i64) 1 w ta ls) := fun {Q} => ⟨fun w h => h.2, by omega⟩
    refine ⟨fun w53 => RunS w g b b1 ta tc ls w53, fun _ w53 h53 => ?_, ?_⟩
    · refine kW_i64 (by omega) ?_
      exact ⟨⟨by omega, h53⟩, by dsimp only; omega⟩
    have hQp : ∀ {w : World}, QL L ca w ∧ PaR w ra r.parts ∧ SlR (IntC .i64) 1 w ta ls → True := fun _ => trivial
    have hRl : Rolls ta ls (fun w => QL L ca w ∧ PaR w ra r.parts ∧ SlR (IntC .i64) 1 w ta ls) := ⟨fun w h => h.2.2, by omega⟩
    refine rNext H15 (i := 0) rfl hRl hp (by omega) fun v9 p9 w16 _ hv9 hp9 H16 => ?_
    have hv9 := hv9 (by omega)
    clear H15
    refine kW_i64 (by omega) ?_
    refine rBytes H16 (i := 0) rfl hRl hp9 (1 + v9).toNat (by omega) (by omega) fun da dc bs p10 w17 hbs hbl hp10 H17 => ?_
    clear H16
    refine rNext H17 (i := 0) rfl hRl hp10 (by omega) fun size p11 w18 _ hsz hp11 H18 => ?_
    have hsz := hsz (by omega)
    clear H17
    simp only [List.set_cons_succ, List.set_cons_zero, List.cons_append, List.nil_append] at H18
    refine ⟨_, _, _, _, _, _, H18.cells (i := 1) rfl, ?_⟩
    refine (law23_agree_ct hL H18.get.1 hS.sm hcc (H18.slI (i := 3) rfl) (by omega) (by omega)).mono ?_
    rintro _ w19 ⟨rfl, hb19⟩; have H19 := H18.pass hb19; clear H18
    refine ⟨_, rfl, ?_⟩
    refine bsplit_n (fun c => by cases c) (fun _ => ?_)
    refine rNext H19 (i := 0) rfl hRl hp11 (by omega) fun sw p12 w20 _ hsw hp12 H20 => ?_
    clear H19
    simp only [List.set_cons_zero] at H20
    refine kLet_in ?_
    refine bsplit_dec (fun c3 => ?_) (fun c3 => ?_)
    · refine ⟨_, _, _, _, _, _, H20.cells (i := 1) rfl, ?_⟩
      obtain ⟨A, hA, hc⟩ := H20.callH
      refine (ref23_Submit_ct hL (hA.weaken fun _ h => h.1) hS.sm hcc (H20.slI (i := 3) rfl) (by omega)).mono ?_
      rintro _ w21 ⟨a5, c5, L5, hL5, rfl, hcc5, K⟩; have H21 := hc K; clear H20 hc hA K
      refine ⟨_, _, _, _, _, _, _, rfl, ?_⟩
      refine H21.store (i := 1) rfl (by rfl) (by rfl) ?_; clear H21; intro w22 H22
      simp only [List.set_cons_succ, List.set_cons_zero] at H22
      exact ⟨p12, _, L5, a5, c5, r, ra, rc, hL5, hcc5, runs_sub hS hbs (by omega), hrR, hp12, (St.left (X := [_, _, _]) H22).imp fun w h => ⟨h.1, h.2.2⟩⟩
    refine kLet_in ?_
    refine bsplit_dec (fun c4 => ?_) (fun c4 => ?_)
    · refine ⟨_, _, _, _, _, _, _, _, _, _, _, _, _, _, _, _, H20.cells (i := 2) rfl, ?_⟩
      refine (unack_Tick_ct H20.get.2.1 hrR.fit hrR.gp.sm).mono ?_
      have hT := runs_tick hrR
      obtain ⟨T, hTe⟩ : ∃ T, T = tickU r := ⟨_, rfl⟩
      rw [← hTe] at hT ⊢
      rintro _ w23 ⟨a23, c23, rfl, K⟩; have H23 := H20.callF K; clear H20 K
      rw [List.append_nil] at H23
      refine ⟨_, _, _, _, _, _, _, _, _, _, _, _, _, _, _, _, _, rfl, ?_⟩
      refine H23.alloc ?_; clear H23; intro b2 w24 H24
      simp only [List.cons_append, List.nil_append] at H24
      refine H24.store (i := 4) rfl (by rfl) (by rfl) ?_; clear H24; intro w25 H25
      simp only [List.set_cons_succ, List.set_cons_zero] at H25
      refine ⟨_, _, _, _, _, _, _, _, _, _, _, _, _, _, _, _, H25.cells (i := 2) rfl, ?_⟩
      obtain ⟨A, hA, hc⟩ := H25.callH
      obtain ⟨LP, hLP, hQ⟩ := held_paR hA (fun _ h => h.2.2.1)
      refine (ref23_Tick_ct hLP hQ (by have := congrArg List.length hLP; rw [List.length_map] at this; have := hrR.fit.1; omega) hrR.gp.sm).mono ?_
      rw [← hTe]
      rintro _ w26 ⟨a26, c26, L26, hL26, rfl, K⟩; have H26 := hc K; clear H25 hc hA hQ K
      refine ⟨_, _, _, _, _, _, _, _, _, _, _, _, _, _, _, _, _, rfl, ?_⟩
      refine H26.alloc ?_; clear H26; intro b3 w27 H27
      simp only [List.cons_append, List.nil_append] at H27
      refine H27.store (i := 5) rfl (by rfl) (by rfl) ?_; clear H27; intro w28 H28
      simp only [List.set_cons_succ, List.set_cons_zero] at H28
      refine bsplit_nd (fun c => absurd rfl c) (fun _ => ?_)
      refine ⟨_, _, _, _, _, _, _, _, _, _, _, _, _, _, _, _, H28.cells (i := 4) rfl, ?_⟩
      refine ⟨_, _, _, _, _, _, _, _, _, _, _, _, _, _, _, _, H28.cells (i := 5) rfl, ?_⟩
      have h26 : ∀ {w : World}, PL L26 a26 w → PaR w a26 T.1.parts := fun h => by rw [← hL26]; exact up_paR h.1 h.2.1 h.2.2
      refine (ref21_Same_ct H28.get.2.1 (h26 H28.get.1) hT.gp.sm hT.gp.bys).mono ?_
      rintro _ w30 ⟨rfl, hb30⟩; have H30 := H28.pass hb30; clear H28
      refine ⟨_, rfl, ?_⟩
      refine bsplit_n (fun c => by cases c) (fun _ => ?_)
      refine ⟨_, _, _, _, _, _, _, _, _, _, _, _, _, _, _, _, H30.cells (i := 5) rfl, ?_⟩
      refine H30.store (i := 2) rfl (by rfl) (by rfl) ?_; clear H30; intro w31 H31
      simp only [List.set_cons_succ, List.set_cons_zero] at H31
      exact ⟨p12, c, L, ca, cc, T.1, a26, c26, hL, hcc, hS, hT, hp12, (St.left (X := [_, _, _]) H31).imp fun w h => ⟨h.2.2.1, h26 h.1, h.2.2.2.2⟩⟩
    · refine ⟨_, _, _, _, _, _, H20.cells (i := 1) rfl, ?_⟩
      obtain ⟨A, hA, hc⟩ := H20.call
      refine (ref23_Build_own hL (hA.weaken fun _ h => h.1) hS.sm hcc (by omega)).mono ?_
      have hBS := runs_build (size := size) hS
      have hBb := build_bytesS (size := size) hS.by_
      obtain ⟨hBl, hB1⟩ := build_lenS (c := c) (size := size)
      obtain ⟨B, hBe⟩ : ∃ B, B = buildC c size := ⟨_, rfl⟩
      rw [← hBe] at hBS hBb hBl hB1 ⊢
      rintro _ w32 ⟨a5, c5, L5, ba, bc, hL5, rfl, hbc, hcc5, K⟩; have H32 := hc K; clear H20 hc hA K
      refine ⟨_, _, _, _, _, _, _, _, _, _, rfl, ?_⟩
      refine H32.alloc ?_; clear H32; intro b4 w33 H33
      simp only [List.cons_append, List.nil_append] at H33
      refine H33.store (i := 5) rfl (by rfl) (by rfl) ?_; clear H33; intro w34 H34
      simp only [List.set_cons_succ, List.set_cons_zero] at H34
      refine bsplit_nd (fun e5 => ?_) (fun e5 => ?_)
      · refine ⟨_, _, _, _, _, _, H34.cells (i := 1) rfl, ?_⟩
        obtain ⟨A, hA, hc⟩ := H34.callH
        refine (ref23_Submit_ct hL (hA.weaken fun _ h => h.2.1) hS.sm hcc (H34.slI (i := 3) rfl) (by omega)).mono ?_
        rintro _ w35 ⟨a6, c6, L6, hL6, rfl, hcc6, K⟩; have H35 := hc K; clear H34 hc hA K
        refine ⟨_, _, _, _, _, _, _, rfl, ?_⟩
        refine H35.store (i := 1) rfl (by rfl) (by rfl) ?_; clear H35; intro w36 H36
        simp only [List.set_cons_succ, List.set_cons_zero] at H36
        exact ⟨p12, _, L6, a6, c6, r, ra, rc, hL6, hcc6, runs_sub hS hbs (by omega), hrR, hp12, (St.left (X := [_, _, _]) H36).imp fun w h => ⟨h.1, h.2.2.2⟩⟩
      have hB1 := hB1 e5
      refine ⟨_, _, _, _, _, _, H34.cells (i := 5) rfl, ?_⟩
      refine H34.store (i := 1) rfl (by rfl) (by rfl) ?_; clear H34; intro w37 H37
      simp only [List.set_cons_succ, List.set_cons_zero] at H37
      replace H37 : St (fun _ => False) [] w w37 [rdice g ta tc ls p12, .blk b Ty_api_Cutter (encCu B.1 a5 c5), .blk b1 Ty_api_Receiver (encRc r ra rc), .ints Ty_uint8 .u8 ba bc B.2.1] (fun w => QL L5 a5 w ∧ PaR w ra r.parts ∧ SlR (IntC .i64) 1 w ta ls) := by
        refine St.imp (H37.sub (fun i => [0, 1, 2, 4].getD i 0) ?_ ?_) fun w h => ⟨h.1, h.2.2⟩
        · rintro (_ | _ | _ | _ | _) r h <;> first | exact h | cases h
        · intro i j hi hj; simp only [List.length_cons, List.length_nil] at hi hj; rcases i with _ | _ | _ | _ | i <;> rcases j with _ | _ | _ | _ | j <;> simp <;> omega
      have hRm : Rolls ta ls (fun w => QL L5 a5 w ∧ PaR w ra r.parts ∧ SlR (IntC .i64) 1 w ta ls) := ⟨fun w h => h.2.2, by omega⟩
      refine rNext H37 (i := 0) rfl hRm hp12 (by omega) fun v19 p19 w38 _ _ hp19 H38 => ?_
      clear H37
      simp only [List.set_cons_zero] at H38
      refine bsplit_dec (fun c6 => ?_) (fun c6 => ?_)
      · exact ⟨p19, B.1, L5, a5, c5, r, ra, rc, hL5, hcc5, hBS, hrR, hp19, (St.left (X := [_, _, _]) H38)⟩
      refine ⟨fun w41 => ∃ (p : Nat) (bt : List Int), bt.length = B.2.1.length ∧ Bytes bt ∧ p ≤ ls.length ∧ St (fun _ => False) [] w w41 [rdice g ta tc ls p, .blk b Ty_api_Cutter (encCu B.1 a5 c5), .blk b1 Ty_api_Receiver (encRc r ra rc), .ints Ty_uint8 .u8 ba bc bt] (fun w => QL L5 a5 w ∧ PaR w ra r.parts ∧ SlR (IntC .i64) 1 w ta ls), ?_, ?_⟩
      · clear H38
        rintro _ w41 ⟨p20, bt, hbt, hbB, hp20, H41⟩
        rw [← hbt]
        refine ⟨_, _, _, _, _, _, _, _, _, _, _, _, _, _, _, _, H41.cells (i := 2) rfl, ?_⟩
        obtain ⟨hT, hPl⟩ := runs_rec hrR hbB
        obtain ⟨-, g2⟩ := rec_gp hrR.gp hbB
        refine (unack_Receive_ct H41.get.2.1 hrR.gp.sm (H41.slI (i := 3) rfl) hbB (by omega) (H41.capI (i := 3) rfl)).mono ?_
        have CR := fun (w44 : World) (h1 : PaR w44 ra r.parts) (h2 : SlR (IntC .u8) 1 w44 ba bt) => ref23_Receive_ct (c := rc) (b_c := bc) h1 hrR.gp.sm h2 hbB (by omega) (H41.capI (i := 3) rfl)
        rw [hPl] at CR
        obtain ⟨T, hTe⟩ : ∃ T, T = recS r bt := ⟨_, rfl⟩
        rw [← hTe] at hT CR g2 ⊢
        rintro _ w42 ⟨a24, c24, ba24, bc24, rfl, hbc24, K⟩; have H42 := H41.callF K; clear H41 K
        rw [List.append_nil] at H42
        refine ⟨_, _, _, _, _, _, _, _, _, _, _, _, _, _, _, _, _, _, _, _, rfl, ?_⟩
        refine H42.alloc ?_; clear H42; intro b7 w43 H43
        simp only [List.cons_append, List.nil_append] at H43
        refine H43.store (i := 4) rfl (by rfl) (by rfl) ?_; clear H43; intro w44 H44
        simp only [List.set_cons_succ, List.set_cons_zero] at H44
        refine ⟨_, _, _, _, _, _, _, _, _, _, _, _, _, _, _, _, H44.cells (i := 2) rfl, ?_⟩
        refine (CR _ H44.get.2.2.1 (H44.slI (i := 3) rfl)).mono ?_
        clear CR
        rintro _ w45 ⟨a25, c25, ba25, bc25, rfl, hbc25, K⟩; have H45 := H44.callF K; clear H44 K
        rw [List.append_nil] at H45
        refine ⟨_, _, _, _, _, _, _, _, _, _, _, _, _, _, _, _, _, _, _, _, rfl, ?_⟩
        refine H45.alloc ?_; clear H45; intro b8 w46 H46
        simp only [List.cons_append, List.nil_append] at H46
        refine H46.store (i := 5) rfl (by rfl) (by rfl) ?_; clear H46; intro w47 H47
        simp only [List.set_cons_succ, List.set_cons_zero] at H47
        refine bsplit_nd (fun c => absurd rfl c) (fun _ => ?_)
        refine (roll_Same_eq H47.get.2.1.2 H47.get.1.2).mono ?_
        rintro _ w49 ⟨rfl, hb49⟩; have H49 := H47.pass hb49; clear H47
        refine ⟨_, rfl, ?_⟩
        refine bsplit_n (fun c => by cases c) (fun _ => ?_)
        refine ⟨_, _, _, _, _, _, _, _, _, _, _, _, _, _, _, _, H49.cells (i := 4) rfl, ?_⟩
        refine ⟨_, _, _, _, _, _, _, _, _, _, _, _, _, _, _, _, H49.cells (i := 5) rfl, ?_⟩
        refine (ref21_Same_ct (s := plainR T.1) H49.get.2.1.1 H49.get.1.1 hT.gp.sm hT.gp.bys).mono ?_
        rintro _ w51 ⟨rfl, hb51⟩; have H51 := H49.pass hb51; clear H49
        refine ⟨_, rfl, ?_⟩
        refine bsplit_n (fun c => by cases c) (fun _ => ?_)
        refine ⟨_, _, _, _, _, _, _, _, _, _, _, _, _, _, _, _, H51.cells (i := 5) rfl, ?_⟩
        refine H51.store (i := 2) rfl (by rfl) (by rfl) ?_; clear H51; intro w52 H52
        simp only [List.set_cons_succ, List.set_cons_zero] at H52
        exact ⟨p20, B.1, L5, a5, c5, plainR T.1, a25, c25, hL5, hcc5, hBS, hT, hp20, (St.left (X := [_, _, _]) H52).imp fun w h => ⟨h.2.2.1, h.1.1, h.2.2.2.2⟩⟩
      · refine rNext H38 (i := 0) rfl hRm hp19 (by omega) fun v20 p20 w39 _ _ hp20 H39 => ?_
        clear H38
        simp only [List.set_cons_zero] at H39
        refine bsplit_dec (fun c7 => ?_) (fun c7 => ?_)
        · obtain ⟨gb, hgb, -⟩ := H39.rowSome (i := 3) rfl (by omega)
          refine kW_i64 (by omega) ?_
          obtain ⟨k, hk⟩ : ∃ k : Nat, k + 1 = B.2.1.length := ⟨B.2.1.length - 1, by omega⟩
          have hk1 : ((B.2.1.length : Nat) : Int) - 1 = k := by omega
          rw [hk1]
          obtain ⟨ba', hba'⟩ : ∃ ba' : Option Addr, ba' = some ⟨gb, 0, none⟩ := ⟨_, rfl⟩
          rw [hgb] at H39 ⊢
          refine kIx_at ⟨by omega, by omega⟩ ?_
          rw [add_mk, Int.toNat_natCast, Nat.mul_one, Nat.zero_add]
          have hcell := H39.cellRow (i := 3) rfl (show (B.2.1.map (Value.int .u8))[k]? = some (.int .u8 B.2.1[k]) by rw [List.getElem?_map, List.getElem?_eq_getElem (by omega)]; rfl)
          refine ⟨B.2.1[k], hcell, ?_⟩
          refine kLet_intro fun x7 hx7 => ?_
          have hx : 0 ≤ x7 ∧ x7 < 256 := by
            rw [hx7]; unfold bXor
            show 0 ≤ (_ : Int) % 256 ∧ _ % 256 < 256
            omega
          refine kIx_at ⟨by omega, by omega⟩ ?_
          rw [add_mk, Nat.zero_add]
          refine H39.setI (i := 3) rfl (by omega) fun w40 _ H40 => ?_
          refine ⟨p20, B.2.1.set k x7, by simp, ?_, hp20, H40⟩
          refine bytes_mem.2 fun y hy => ?_
          rcases List.mem_or_eq_of_mem_set hy with h | h
          · exact bytes_mem.1 hBb y h
          · omega
        · exact ⟨p20, B.2.1, rfl, hBb, hp20, H39⟩
  · refine bsplit_dec (fun c2 => ?_) (fun c2 => ?_)
    · refine (rRest H11 (i := 0) rfl hp (by omega)).mono ?_
      rintro _ w12 ⟨⟨v, rfl⟩, hb12⟩; have H12 := H11.pass hb12; clear H11
      refine ⟨_, rfl, ?_⟩
      refine bsplit_dec (fun c3 => ?_) (fun c3 => awakeTo H12)
      exact ⟨c2, p, c, L, ca, cc, r, ra, rc, hL, hcc, hS, hrR, hp, H12⟩
    · exact awakeTo H11
end
end Go.Proofs.YtlgolgpellbnbaaGreat
