import Derived.Test.YthceaojjeokclaaGreatM21b
import Derived.Test.YthceaojjeokclaaGreatForms
import Derived.Test.YthceaojjeokclaaGreatTys
import Derived.Test.YthceaojjeokclaaGreatBt
import Derived.Test.YthceaojjeokclaaGreatSt
import Derived.Test.YthceaojjeokclaaGreatFxReceiverMade
namespace Go.Sx
theorem end_come {x : Pa} (h : normB (-1) x.come = true) (e : (x.data.length : Int) = endT x.come) : ∀ r ∈ x.come, r.t ≤ x.data.length := by
  intro r hr
  have := (norm_end (q := 0) h).1 r hr
  unfold endT at e; omega
theorem getD_at2 {d : List Int} {k : Nat} (h : k < d.length) : d.getD k 0 = d[k] := by simp [List.getD, List.getElem?_eq_getElem h]
theorem zero_iff {x : Pa} (h : normB (-1) x.come = true) (e : (x.data.length : Int) = endT x.come) :
    zeroB x = true ↔ ∀ k : Nat, k < x.data.length → covB k x.come = false → x.data.getD k 0 = 0 := by
  have ht := end_come h e
  have hc := fun k : Int => gaps_cov x.sn k x.data.length x.come 0 (by simpa using h) ht
  have hn := gaps_norm x.sn x.data.length x.come (-1) 0 (by simpa using h) (by omega)
  have hg := norm_lt _ _ hn
  have hle : ∀ g ∈ gapsS x.sn x.come 0 x.data.length, g.t ≤ x.data.length := gaps_le x.sn x.data.length x.come 0 fun r hr => by
    have := norm_lt _ _ h r hr; have := ht r hr; omega
  unfold zeroB
  rw [List.all_eq_true]
  constructor
  · intro hz k hk hck
    have h1 := hc k
    rw [hck] at h1
    have h2 : covB (k : Int) (gapsS x.sn x.come 0 x.data.length) = true := by rw [h1]; simp; omega
    obtain ⟨g, hg1, hg2, hg3⟩ := cov_iff.1 h2
    have h3 := hz g hg1
    rw [List.all_eq_true] at h3
    have h4 := hg g hg1
    have h5 := hle g hg1
    have hi : k - g.f.toNat < ((x.data.drop g.f.toNat).take (g.t.toNat - g.f.toNat)).length := by simp only [List.length_take, List.length_drop]; omega
    have h6 := h3 _ (List.getElem_mem hi)
    simp only [List.getElem_take, List.getElem_drop, decide_eq_true_eq] at h6
    rw [getD_at2 hk]
    rw [← h6]
    congr 1; omega
  · intro hz g hg1
    rw [List.all_eq_true]
    intro c hcm
    obtain ⟨j, hj, rfl⟩ := List.getElem_of_mem hcm
    simp only [List.getElem_take, List.getElem_drop, decide_eq_true_eq]
    simp only [List.length_take, List.length_drop] at hj
    have h4 := hg g hg1
    have h5 := hle g hg1
    have hk : g.f.toNat + j < x.data.length := by omega
    have h1 := hc ((g.f.toNat + j : Nat) : Int)
    have h2 : covB ((g.f.toNat + j : Nat) : Int) (gapsS x.sn x.come 0 x.data.length) = true := cov_iff.2 ⟨g, hg1, by omega, by omega⟩
    rw [h2] at h1
    have h3 : covB ((g.f.toNat + j : Nat) : Int) x.come = false := by
      cases hb : covB ((g.f.toNat + j : Nat) : Int) x.come with
      | false => rfl
      | true => rw [hb] at h1; simp at h1
    have := hz _ hk h3
    rwa [getD_at2 hk] at this
theorem contra_new (n : Int) (p : Pc) (h : 1 ≤ p.en) : contraB (newPa n) p = false := by
  unfold contraB
  split
  · rw [decide_eq_false_iff_not]
    rintro (⟨h1, _⟩ | h1)
    · exact h1 rfl
    · simp only [newPa, endT, lastT] at h1; omega
  · rw [decide_eq_false_iff_not]
    rintro ⟨h1, _⟩
    exact h1 rfl
def Open (x : Pa) : Prop := x.done = false ∧ (x.len = -1 ∨ (1 ≤ x.len ∧ x.len ≤ 2054 ∧ (x.data.length : Int) ≤ x.len)) ∧ normB (-1) x.come = true ∧ (x.data.length : Int) = endT x.come ∧ x.data.length ≤ 2054 ∧ ∀ k : Nat, k < x.data.length → covB k x.come = false → x.data.getD k 0 = 0
theorem open_new (n : Int) : Open (newPa n) := ⟨rfl, .inl rfl, rfl, rfl, Nat.zero_le _, fun k h => by simp [newPa] at h⟩
theorem open_of {x : Pa} (hd : x.done = false) (h : paB x = true) : Open x := by
  rw [paB, if_neg (by rw [hd]; decide), Bool.and_eq_true, decide_eq_true_iff] at h
  obtain ⟨⟨h1, h2, h3, h4, h5, h6, h7⟩, hz⟩ := h
  exact ⟨hd, h1, h3, h5, h6, (zero_iff h3 h5).1 hz⟩
theorem merge_open {x : Pa} {p : Pc} (h : Open x) (hp : (0 ≤ p.off ∧ p.off ≤ 2054) ∧ 1 ≤ p.data.length ∧ p.off + p.data.length ≤ 2054) (hc : contraB x p = false) :
    Open (mergeS x p) ∧ (mergeS x p).come ≠ [] ∧ ∀ r ∈ (mergeS x p).come, r.sn = p.sn := by
  obtain ⟨h1, h2, h3, h4, h5, h6⟩ := h
  obtain ⟨⟨p1, p2⟩, p3, p4⟩ := hp
  have hen : p.en = p.off + p.data.length := rfl
  have hlt : p.off < p.en := by omega
  have hl : (mergeS x p).data.length = max x.data.length (p.off.toNat + p.data.length) := layD_len _ _ _
  have hcome : (mergeS x p).come = unionS p.sn x.come p.off p.en := rfl
  have hnorm : normB (-1) (mergeS x p).come = true := union_norm p.sn x.come (-1) p.off p.en h3 (by omega) hlt
  have hend : endT (mergeS x p).come = max (endT x.come) p.en := end_union h3 p1 hlt
  have hcov : ∀ k : Int, covB k (mergeS x p).come = (decide (p.off ≤ k ∧ k < p.en) || covB k x.come) := fun k => union_cov p.sn k x.come p.off p.en hlt fun r hr => (norm_lt _ _ h3 r hr).2
  refine ⟨⟨h1, ?_, hnorm, ?_, ?_, ?_⟩, ?_, union_sn p.sn x.come p.off p.en⟩
  · have hlen : (mergeS x p).len = if ends p.part = true then p.en else x.len := rfl
    rw [hlen]
    unfold contraB at hc
    by_cases he : ends p.part = true
    · rw [if_pos he] at hc ⊢
      rw [decide_eq_false_iff_not] at hc
      right
      have : ¬ p.en < endT x.come := fun hh => hc (.inr hh)
      omega
    · rw [if_neg he] at hc ⊢
      rw [decide_eq_false_iff_not] at hc
      rcases h2 with h2 | ⟨g1, g2, g3⟩
      · exact .inl h2
      · right
        have : ¬ x.len ≤ p.en := fun hh => hc ⟨by omega, hh⟩
        omega
  · rw [hend, hl]; omega
  · rw [hl]; omega
  · intro k hk hck
    rw [hcov, Bool.or_eq_false_iff, decide_eq_false_iff_not] at hck
    have hd : (mergeS x p).data.getD k 0 = _ := layD_get x.data p.off.toNat p.data k
    rw [hd, if_neg (by omega)]
    by_cases hkd : k < x.data.length
    · exact h6 k hkd hck.2
    · simp [List.getD, List.getElem?_eq_none (by omega : x.data.length ≤ k)]
  · intro e
    have := hcov p.off
    rw [e] at this
    simp [covB, hlt] at this
theorem merge_pa {x : Pa} {p : Pc} (h : Open x) (hs : x.sn = p.sn) (hp : (0 ≤ p.off ∧ p.off ≤ 2054) ∧ 1 ≤ p.data.length ∧ p.off + p.data.length ≤ 2054) (hc : contraB x p = false) (hn : compB (mergeS x p) = false) : paB (mergeS x p) = true := by
  obtain ⟨⟨h1, h2, h3, h4, h5, h6⟩, h7, h8⟩ := merge_open h hp hc
  rw [paB, if_neg (by rw [h1]; decide), Bool.and_eq_true, decide_eq_true_iff]
  refine ⟨⟨h2, h7, h3, fun r hr => ?_, h4, h5, hn⟩, (zero_iff h3 h4).2 h6⟩
  rw [h8 r hr]; exact hs.symm
end Go.Sx
namespace Go.Sx
open Go.Proofs.YthceaojjeokclaaGreat
structure Core (s : Rc) : Prop where
  lk : lkOk s.lk
  f : snOk s.lk.bits s.first
  n : snOk s.lk.bits s.next
  u : snOk s.lk.bits s.upto
  half : s.place s.next ≤ 2 ^ (s.lk.bits - 1).toNat
  q : 0 ≤ s.quiet ∧ s.quiet ≤ s.lk.quiet
  all : ∀ x ∈ s.parts, paB x = true ∧ snOk s.lk.bits x.sn ∧ s.place x.sn < s.place s.next
  asc : s.parts.Pairwise fun x y => s.place x.sn < s.place y.sn
  last : ((s.parts.getLast?).map fun x => s.place x.sn).getD (-1) = s.place s.next - 1
def NoFirst (s : Rc) : Prop := ∀ x ∈ s.parts, ¬ (x.done = true ∧ x.sn = s.first)
theorem paFrom_iff {s : Rc} : ∀ {L : List Pa} {last : Int}, paFrom s last L = true ↔ (∀ x ∈ L, paB x = true ∧ snOk s.lk.bits x.sn ∧ last < s.place x.sn ∧ s.place x.sn < s.place s.next ∧ ¬ (x.done = true ∧ x.sn = s.first)) ∧ (L.Pairwise fun x y => s.place x.sn < s.place y.sn) ∧ ((L.getLast?).map fun x => s.place x.sn).getD last = s.place s.next - 1
  | [], last => by simp [paFrom]
  | p :: l, last => by
    have ih := paFrom_iff (s := s) (L := l) (last := s.place p.sn)
    have hl : (((p :: l).getLast?).map fun x => s.place x.sn).getD last = ((l.getLast?).map fun x => s.place x.sn).getD (s.place p.sn) := by
      rw [List.getLast?_cons]
      cases l.getLast? <;> rfl
    rw [hl, List.pairwise_cons]
    simp only [paFrom, Bool.and_eq_true, ih, paAt, decide_eq_true_eq, List.mem_cons, forall_eq_or_imp]
    have hd : (!p.done || !decide (p.sn = s.first)) = true ↔ ¬ (p.done = true ∧ p.sn = s.first) := by
      cases p.done <;> simp
    rw [hd]
    constructor
    · rintro ⟨⟨⟨⟨h1, h2, h3⟩, h4⟩, h5⟩, h6, h7, h8⟩
      exact ⟨⟨⟨h5, h1, h2, h3, h4⟩, fun x hx => ⟨(h6 x hx).1, (h6 x hx).2.1, by have := (h6 x hx).2.2.1; omega, (h6 x hx).2.2.2⟩⟩, ⟨fun x hx => (h6 x hx).2.2.1, h7⟩, h8⟩
    · rintro ⟨⟨⟨h5, h1, h2, h3, h4⟩, h6⟩, ⟨h9, h7⟩, h8⟩
      exact ⟨⟨⟨⟨h1, h2, h3⟩, h4⟩, h5⟩, fun x hx => ⟨(h6 x hx).1, (h6 x hx).2.1, h9 x hx, (h6 x hx).2.2.2⟩, h7, h8⟩
theorem place_ge (s : Rc) (n : Int) : 0 ≤ s.place n := (way_range _ _ _).1
theorem ok_iff {s : Rc} : s.okB = true ↔ Core s ∧ s.place s.upto ≤ s.place s.next ∧ NoFirst s ∧ markB s = true := by
  unfold Rc.okB headB
  simp only [Bool.and_eq_true, decide_eq_true_eq, paFrom_iff]
  constructor
  · rintro ⟨⟨⟨h1, h2, h3, h4, h5, h6, h7, h8⟩, h9, h10, h11⟩, h12⟩
    exact ⟨⟨h1, h2, h3, h4, h5, ⟨h7, h8⟩, fun x hx => ⟨(h9 x hx).1, (h9 x hx).2.1, (h9 x hx).2.2.2.1⟩, h10, h11⟩, h6, fun x hx => (h9 x hx).2.2.2.2, h12⟩
  · rintro ⟨⟨h1, h2, h3, h4, h5, ⟨h7, h8⟩, h9, h10, h11⟩, h6, h13, h12⟩
    exact ⟨⟨⟨h1, h2, h3, h4, h5, h6, h7, h8⟩, fun x hx => ⟨(h9 x hx).1, (h9 x hx).2.1, by have := place_ge s x.sn; omega, (h9 x hx).2.2, h13 x hx⟩, h10, h11⟩, h12⟩
def MarkW (s : Rc) : Prop := (s.mark = -1 → s.left = 0) ∧ (s.mark ≠ -1 → snOk s.lk.bits s.mark ∧ 1 ≤ s.left ∧ s.left ≤ s.lk.wait)
theorem mark_w {s : Rc} (h : markB s = true) : MarkW s := by
  rcases mark_iff.1 h with ⟨h1, h2⟩ | ⟨h1, h2, h3, h4, h5, h6⟩
  · exact ⟨fun _ => h2, fun hh => absurd h1 hh⟩
  · exact ⟨fun hh => absurd hh h1, fun _ => ⟨h2, h5, h6⟩⟩
theorem place_self (s : Rc) : s.place s.first = 0 := by unfold Rc.place way; rw [Int.sub_self, Int.zero_emod]
theorem Core.same {s t : Rc} (h : Core s) (h1 : t.lk = s.lk) (h2 : t.first = s.first) (h3 : t.next = s.next) (h4 : snOk s.lk.bits t.upto) (h5 : 0 ≤ t.quiet ∧ t.quiet ≤ s.lk.quiet) (h6 : t.parts = s.parts) : Core t := by
  have hp : ∀ n, t.place n = s.place n := fun n => by unfold Rc.place; rw [h1, h2]
  refine ⟨by rw [h1]; exact h.lk, by rw [h1, h2]; exact h.f, by rw [h1, h3]; exact h.n, by rw [h1]; exact h4, by rw [hp, h1, h3]; exact h.half, by rw [h1]; exact h5, ?_, ?_, ?_⟩
  · intro x hx; rw [h6] at hx; rw [h1, hp, hp, h3]; exact h.all x hx
  · rw [h6]; exact h.asc.imp fun {a b} hab => by rw [hp, hp]; exact hab
  · rw [h6, hp, h3]
    have : (fun x : Pa => t.place x.sn) = fun x => s.place x.sn := funext fun x => hp x.sn
    rw [this]; exact h.last
theorem start_ok {s : Rc} (h : Core s) (hu : s.place s.upto ≤ s.place s.next) (hf : NoFirst s) (hm : MarkW s) : (startR s).okB = true := by
  obtain ⟨e1, e2, e3, e4, e5, e6, e7⟩ := startR_same s
  have hp : ∀ n, (startR s).place n = s.place n := fun n => by unfold Rc.place; rw [e2, e3]
  refine ok_iff.2 ⟨h.same e2 e3 e4 (by rw [e5]; exact h.u) (by rw [e6]; exact h.q) e1, by rw [hp, hp, e5, e4]; exact hu, fun x hx => by rw [e1] at hx; rw [e3]; exact hf x hx, mark_iff.2 ?_⟩
  obtain ⟨m1, m2⟩ := hm
  have hn0 : s.first ≠ s.next → 1 ≤ s.place s.next := fun hne => by
    have := place_ge s s.next
    rcases Int.lt_or_le 0 (s.place s.next) with h1 | h1
    · omega
    · exact absurd (place_inj h.lk.1 h.f h.n (by rw [place_self]; omega)) hne
  have hp1 : ∀ n, (start1 s).place n = s.place n := fun n => by unfold start1; split <;> rfl
  obtain ⟨t, ht⟩ : ∃ t, t = start1 s := ⟨_, rfl⟩
  have hl := h.lk
  obtain ⟨-, -, -, hw, -, -⟩ := hl
  have ht0 : t.lk = s.lk ∧ t.first = s.first ∧ t.next = s.next := by rw [ht]; unfold start1; split <;> exact ⟨rfl, rfl, rfl⟩
  have htm : (t.mark = -1 ∧ t.left = 0) ∨ (t.mark ≠ -1 ∧ snOk s.lk.bits t.mark ∧ 1 ≤ s.place t.mark ∧ s.place t.mark ≤ s.place s.next ∧ 1 ≤ t.left ∧ t.left ≤ s.lk.wait) := by
    rw [ht]; unfold start1
    by_cases c : s.mark ≠ -1 ∧ (s.place s.mark = 0 ∨ s.place s.mark > s.place s.next)
    · rw [if_pos c]; exact .inl ⟨rfl, rfl⟩
    · rw [if_neg c]
      by_cases c2 : s.mark = -1
      · exact .inl ⟨c2, m1 c2⟩
      · have := place_ge s s.mark
        have c3 : ¬ (s.place s.mark = 0 ∨ s.place s.mark > s.place s.next) := fun hh => c ⟨c2, hh⟩
        obtain ⟨m3, m4, m5⟩ := m2 c2
        exact .inr ⟨c2, m3, by omega, by omega, m4, m5⟩
  have hst : startR s = start2 t := by rw [ht]; rfl
  have hpt : ∀ n, (start2 t).place n = s.place n := fun n => by rw [← hst]; exact hp n
  rw [hst]
  unfold start2
  by_cases c : t.mark = -1 ∧ t.first ≠ t.next
  · rw [if_pos c]
    right
    have h1 := hn0 (by rw [← ht0.2.1, ← ht0.2.2]; exact c.2)
    have hpp : ∀ n, Rc.place { t with mark := t.next, left := t.lk.wait } n = s.place n := fun n => by show way t.lk.bits t.first n = _; rw [ht0.1, ht0.2.1]; rfl
    refine ⟨?_, ?_, ?_, ?_, ?_, ?_⟩
    · show t.next ≠ -1; rw [ht0.2.2]; have := h.n.1; omega
    · show snOk t.lk.bits t.next; rw [ht0.1, ht0.2.2]; exact h.n
    · rw [hpp]; show 1 ≤ s.place t.next; rw [ht0.2.2]; exact h1
    · rw [hpp]; exact Int.le_refl _
    · show 1 ≤ t.lk.wait; rw [ht0.1]; omega
    · exact Int.le_refl _
  · rw [if_neg c]
    have hpp : ∀ n, t.place n = s.place n := fun n => by unfold Rc.place; rw [ht0.1, ht0.2.1]
    rcases htm with h1 | ⟨h1, h2, h3, h4, h5, h6⟩
    · exact .inl h1
    · exact .inr ⟨h1, by rw [ht0.1]; exact h2, by rw [hpp]; exact h3, by rw [hpp, hpp, ht0.2.2]; exact h4, h5, by rw [ht0.1]; exact h6⟩
theorem tick_ok {s : Rc} (h : s.okB = true) : (tickRc s).1.okB = true := by
  obtain ⟨hc, hu, hf, hm⟩ := ok_iff.1 h
  unfold tickRc
  rw [if_neg (by rw [h]; decide)]
  dsimp only
  have hq : 0 ≤ (tick1 s).quiet ∧ (tick1 s).quiet ≤ s.lk.quiet := by
    have := hc.q
    unfold tick1; dsimp only; split <;> omega
  by_cases c : s.left = 0
  · rw [if_pos c]
    refine ok_iff.2 ⟨hc.same rfl rfl rfl hc.u hq rfl, hu, hf, ?_⟩
    exact hm
  · rw [if_neg c]
    rcases mark_iff.1 hm with ⟨_, h2⟩ | ⟨m1, m2, m3, m4, m5, m6⟩
    · exact absurd h2 c
    unfold tick2
    by_cases c2 : s.left - 1 > 0
    · rw [if_pos (show ({ tick1 s with left := s.left - 1 } : Rc).left > 0 from c2)]
      refine ok_iff.2 ⟨hc.same rfl rfl rfl hc.u hq rfl, hu, hf, mark_iff.2 (.inr ⟨m1, m2, m3, m4, ?_, ?_⟩)⟩
      · show 1 ≤ s.left - 1; omega
      · show s.left - 1 ≤ s.lk.wait; omega
    · rw [if_neg (show ¬ ({ tick1 s with left := s.left - 1 } : Rc).left > 0 from c2)]
      refine start_ok (hc.same rfl rfl rfl ?_ hq rfl) ?_ hf ⟨fun _ => ?_, fun hh => absurd rfl hh⟩
      · show snOk s.lk.bits (if s.place s.mark > s.place s.upto then s.mark else s.upto)
        split
        · exact m2
        · exact hc.u
      · show s.place (if s.place s.mark > s.place s.upto then s.mark else s.upto) ≤ s.place s.next
        split
        · exact m4
        · exact hu
      · show s.left - 1 = 0; omega
theorem rep_ok {s : Rc} {size : Int} (h : s.okB = true) (h0 : (repR s size).2.2 = 0) : (repR s size).1 = { s with due := false, quiet := s.lk.quiet } ∧ (repR s size).1.okB = true := by
  obtain ⟨hc, hu, hf, hm⟩ := ok_iff.1 h
  have e : (repR s size).1 = { s with due := false, quiet := s.lk.quiet } := by
    unfold repR at h0 ⊢
    rw [if_neg (by rw [h]; decide)] at h0 ⊢
    by_cases h2 : size < 0 ∨ size > 4096
    · rw [if_pos h2] at h0; cases h0
    rw [if_neg h2] at h0 ⊢
    by_cases h3 : s.due = false ∨ s.quiet > 0
    · rw [if_pos h3] at h0; cases h0
    rw [if_neg h3] at h0 ⊢
    dsimp only at h0 ⊢
    by_cases h4 : (fitR s.lk.bits (statR s).1 size).2 ≠ 0
    · rw [if_pos h4] at h0; exact absurd h0 h4
    · rw [if_neg h4]
  refine ⟨e, ?_⟩
  rw [e]
  have hl := hc.lk
  obtain ⟨-, -, -, -, hq, -⟩ := hl
  refine ok_iff.2 ⟨hc.same rfl rfl rfl hc.u ⟨hq.1, Int.le_refl _⟩ rfl, hu, hf, hm⟩
theorem poll_ok {s : Rc} {p : Pc} (h : s.okB = true) : (pollR s p).okB = true := by
  obtain ⟨hc, hu, hf, hm⟩ := ok_iff.1 h
  unfold pollR
  split
  · exact ok_iff.2 ⟨hc.same rfl rfl rfl hc.n hc.q rfl, Int.le_refl _, hf, hm⟩
  · exact h
end Go.Sx
namespace Go.Sx
open Go.Proofs.YthceaojjeokclaaGreat
theorem place_one {s : Rc} {x : Int} {l : List Pa} (hb : bitsOk s.lk.bits) (hf : snOk s.lk.bits s.first) (hx : snOk s.lk.bits x) (h : 1 ≤ s.place x) : Rc.place { s with first := s.behind s.first, parts := l } x = s.place x - 1 := by
  show way s.lk.bits (s.behind s.first) x = way s.lk.bits s.first x - 1
  have h : 1 ≤ way s.lk.bits s.first x := h
  unfold Rc.behind
  unfold way snOk at *
  rcases pow_bits hb with e | e | e | e | e <;> rw [e] at hf hx h ⊢ <;> omega
theorem behind_ok {s : Rc} (hb : bitsOk s.lk.bits) (n : Int) : snOk s.lk.bits (s.behind n) := by
  unfold Rc.behind snOk
  rcases pow_bits hb with e | e | e | e | e <;> rw [e] <;> omega
theorem place_behind {s : Rc} {n : Int} (hb : bitsOk s.lk.bits) (hf : snOk s.lk.bits s.first) (hn : snOk s.lk.bits n) (h : s.place n < 2 ^ (s.lk.bits - 1).toNat) : s.place (s.behind n) = s.place n + 1 := by
  have h1 := (pow_bits1 hb).1
  unfold Rc.behind Rc.place way snOk at *
  rcases pow_bits hb with e | e | e | e | e <;> rw [e] at hf hn h h1 ⊢ <;> omega
theorem drop_one {s : Rc} {p : Pa} {l : List Pa} (h : Core s) (hp : s.parts = p :: l) (hf : p.sn = s.first) : Core { s with first := s.behind s.first, parts := l } := by
  have hb := h.lk.1
  have h0 : s.place p.sn = 0 := by rw [hf]; exact place_self s
  have hall := h.all
  have hasc := h.asc
  have hlast := h.last
  rw [hp] at hall hasc hlast
  rw [List.pairwise_cons] at hasc
  have hn1 : 1 ≤ s.place s.next := by have := (hall p (by simp)).2.2; omega
  have hpl : ∀ x ∈ l, Rc.place { s with first := s.behind s.first, parts := l } x.sn = s.place x.sn - 1 := fun x hx => place_one hb h.f (hall x (by simp [hx])).2.1 (by have := hasc.1 x hx; omega)
  have hpn : Rc.place { s with first := s.behind s.first, parts := l } s.next = s.place s.next - 1 := place_one hb h.f h.n hn1
  refine ⟨h.lk, behind_ok hb _, h.n, h.u, ?_, h.q, ?_, ?_, ?_⟩
  · show Rc.place { s with first := s.behind s.first, parts := l } s.next ≤ 2 ^ (s.lk.bits - 1).toNat
    rw [hpn]; have := h.half; omega
  · intro x hx
    have h2 := hall x (by simp [show x ∈ l from hx])
    refine ⟨h2.1, h2.2.1, ?_⟩
    show Rc.place { s with first := s.behind s.first, parts := l } x.sn < Rc.place { s with first := s.behind s.first, parts := l } s.next
    rw [hpl x hx, hpn]; have := h2.2.2; omega
  · exact hasc.2.imp_of_mem fun {x y} hx hy hxy => by rw [hpl x hx, hpl y hy]; omega
  · show ((l.getLast?).map fun x => Rc.place { s with first := s.behind s.first, parts := l } x.sn).getD (-1) = Rc.place { s with first := s.behind s.first, parts := l } s.next - 1
    rw [hpn]
    rw [List.getLast?_cons] at hlast
    cases hg : l.getLast? with
    | none =>
      rw [hg] at hlast
      simp only [Option.getD_none, Option.map_some, Option.getD_some] at hlast
      simp only [Option.map_none, Option.getD_none]; omega
    | some x =>
      rw [hg] at hlast
      simp only [Option.getD_some, Option.map_some] at hlast
      simp only [Option.map_some, Option.getD_some]
      rw [hpl x (List.mem_of_getLast? hg)]; omega
theorem adv1_ok : ∀ (l : List Pa) (s : Rc), s.parts = l → Core s → Core (adv1 s) ∧ NoFirst (adv1 s)
  | [], s, hs, h => by
    have e : adv1 s = s := by
      unfold adv1; rw [hs]
      show ({ s with first := s.first, parts := [] } : Rc) = s
      rw [← hs]
    rw [e]
    exact ⟨h, fun x hx => by rw [hs] at hx; simp at hx⟩
  | p :: l, s, hs, h => by
    by_cases c : p.sn = s.first ∧ p.done = true
    · have e : adv1 s = adv1 { s with first := s.behind s.first, parts := l } := by
        unfold adv1; rw [hs, dropS, if_pos c]; rfl
      rw [e]
      exact adv1_ok l _ rfl (drop_one h hs c.1)
    · have e : adv1 s = s := by
        unfold adv1; rw [hs, dropS, if_neg c]
        show ({ s with first := s.first, parts := p :: l } : Rc) = s
        rw [← hs]
      rw [e]
      refine ⟨h, fun x hx => ?_⟩
      have hasc := h.asc
      rw [hs] at hx hasc
      rw [List.pairwise_cons] at hasc
      rcases List.mem_cons.1 hx with rfl | hx
      · exact fun hh => c ⟨hh.2, hh.1⟩
      · intro hh
        have h1 := hasc.1 x hx
        rw [hh.2, place_self] at h1
        have := place_ge s p.sn
        omega
theorem adv_ok {s : Rc} (h : Core s) : Core (advS s) ∧ (advS s).place (advS s).upto ≤ (advS s).place (advS s).next ∧ NoFirst (advS s) := by
  obtain ⟨h1, h2⟩ := adv1_ok _ s rfl h
  have e : advS s = adv2 (adv1 s) := rfl
  rw [e]
  obtain ⟨t, ht⟩ : ∃ t, t = adv1 s := ⟨_, rfl⟩
  rw [← ht] at h1 h2 ⊢
  unfold adv2
  by_cases c : t.place t.upto > t.place t.next
  · rw [if_pos c]
    refine ⟨h1.same rfl rfl rfl h1.f h1.q rfl, ?_, h2⟩
    show t.place t.first ≤ t.place t.next
    rw [place_self]; exact place_ge t t.next
  · rw [if_neg c]
    exact ⟨h1, by omega, h2⟩
theorem while_split {α : Type} (q : α → Bool) : ∀ l : List α, (∀ x ∈ l.take (l.takeWhile q).length, q x = true) ∧ ∀ x, (l.drop (l.takeWhile q).length).head? = some x → q x = false
  | [] => ⟨fun x hx => by simp at hx, fun x hx => by simp at hx⟩
  | y :: l => by
    obtain ⟨h1, h2⟩ := while_split q l
    cases hy : q y with
    | false =>
      simp only [List.takeWhile_cons, hy]
      exact ⟨fun x hx => by simp at hx, fun x hx => by simp at hx; rw [← hx]; exact hy⟩
    | true =>
      simp only [List.takeWhile_cons, hy, if_true, List.length_cons, List.take_succ_cons, List.drop_succ_cons]
      refine ⟨fun x hx => ?_, h2⟩
      rcases List.mem_cons.1 hx with rfl | hx
      · exact hy
      · exact h1 x hx
theorem at_split {s : Rc} (h : Core s) {n : Int} (hn : snOk s.lk.bits n) :
    (∀ x ∈ s.parts.take (atP s n), s.place x.sn < s.place n) ∧ ((foundB s n = false ∧ ∀ x ∈ s.parts.drop (atP s n), s.place n < s.place x.sn) ∨
      ∃ y l, foundB s n = true ∧ s.parts.drop (atP s n) = y :: l ∧ s.parts[atP s n]? = some y ∧ y.sn = n ∧ ∀ x ∈ l, s.place n < s.place x.sn) := by
  obtain ⟨h1, h2⟩ := while_split (fun p : Pa => decide (s.place p.sn < s.place n)) s.parts
  refine ⟨fun x hx => of_decide_eq_true (h1 x hx), ?_⟩
  have hasc := h.asc.drop (i := atP s n)
  have h2 : ∀ x, (s.parts.drop (atP s n)).head? = some x → s.place n ≤ s.place x.sn := fun x hx => by have := of_decide_eq_false (h2 x hx); omega
  have hgd : s.parts[atP s n]? = (s.parts.drop (atP s n)).head? := by rw [List.head?_drop]
  cases hd : s.parts.drop (atP s n) with
  | nil =>
    left
    refine ⟨?_, fun x hx => by simp at hx⟩
    unfold foundB; rw [hgd, hd]; rfl
  | cons y l =>
    rw [hd] at hasc h2 hgd
    rw [List.pairwise_cons] at hasc
    have h3 := h2 y rfl
    have hy : y ∈ s.parts := List.mem_of_mem_drop (i := atP s n) (by rw [hd]; simp)
    by_cases c : y.sn = n
    · right
      refine ⟨y, l, ?_, rfl, hgd, c, fun x hx => ?_⟩
      · unfold foundB; rw [hgd]; exact decide_eq_true c
      · have := hasc.1 x hx; rw [c] at this; exact this
    · left
      have h4 : s.place n ≠ s.place y.sn := fun e => c (place_inj h.lk.1 (h.all y hy).2.1 hn e.symm)
      refine ⟨?_, fun x hx => ?_⟩
      · unfold foundB; rw [hgd]; exact decide_eq_false c
      · rcases List.mem_cons.1 hx with rfl | hx
        · omega
        · have := hasc.1 x hx; omega
theorem last_app {A : List Pa} {y : Pa} {B : List Pa} : (A ++ y :: B).getLast? = some (B.getLast?.getD y) := by
  rw [List.getLast?_append, List.getLast?_cons]; rfl
theorem put_core {s : Rc} {p : Pc} (h : Core s) (hp : p.ok s.lk.bits) (hr : refusedS s p = 0) : Core (putP s p) := by
  obtain ⟨hb, hsn, -, -, -, hpo, hpd, hpe⟩ := hp
  have hsn : snOk s.lk.bits p.sn := hsn
  have hp3 : (0 ≤ p.off ∧ p.off ≤ 2054) ∧ 1 ≤ p.data.length ∧ p.off + p.data.length ≤ 2054 := ⟨hpo, hpd, hpe⟩
  have hold : s.place p.sn < 2 ^ (s.lk.bits - 1).toNat := by
    unfold refusedS at hr
    split at hr
    · cases hr
    · omega
  have hold' : ¬ s.place p.sn ≥ 2 ^ (s.lk.bits - 1).toNat := by omega
  obtain ⟨hA, hsp⟩ := at_split h hsn
  obtain ⟨A, hAe⟩ : ∃ A, A = s.parts.take (atP s p.sn) := ⟨_, rfl⟩
  have hpl : s.parts = A ++ s.parts.drop (atP s p.sn) := by rw [hAe, List.take_append_drop]
  have hkl : atP s p.sn ≤ s.parts.length := by
    have := congrArg List.length (List.takeWhile_append_dropWhile (p := fun p' : Pa => decide (s.place p'.sn < s.place p.sn)) (l := s.parts))
    rw [List.length_append] at this
    show (s.parts.takeWhile _).length ≤ _
    omega
  have hAl : A.length = atP s p.sn := by rw [hAe, List.length_take]; omega
  obtain ⟨y', hy'⟩ : ∃ y', y' = if compB (mergedS s p) then donePa p.sn else mergedS s p := ⟨_, rfl⟩
  have hput : (putP s p).parts = (insS s p).set (atP s p.sn) y' := by rw [hy']; rfl
  have key : ∃ (x : Pa) (B : List Pa), Open x ∧ x.sn = p.sn ∧ contraB x p = false ∧ mergedS s p = mergeS x p ∧ (putP s p).parts = A ++ y' :: B ∧ (∀ z ∈ B, z ∈ s.parts ∧ s.place p.sn < s.place z.sn) ∧ (B.Pairwise fun x y => s.place x.sn < s.place y.sn) ∧
      (B = [] → s.place p.sn ≥ s.place s.next ∨ s.place p.sn = s.place s.next - 1) ∧ (B ≠ [] → B.getLast? = s.parts.getLast?) := by
    have hascd := h.asc.drop (i := atP s p.sn)
    have hlast := h.last
    rcases hsp with ⟨hf, hB⟩ | ⟨y, B, hf, hd, hg, hysn, hB⟩
    · have hi : insS s p = A ++ newPa p.sn :: s.parts.drop (atP s p.sn) := by rw [insS, if_neg (by rw [hf]; decide), hAe]
      refine ⟨newPa p.sn, s.parts.drop (atP s p.sn), open_new _, rfl, contra_new _ _ (by show 1 ≤ p.off + p.data.length; omega), ?_, ?_, fun z hz => ⟨List.mem_of_mem_drop hz, hB z hz⟩, hascd, fun hn => ?_, fun hn => ?_⟩
      · unfold mergedS; rw [hi, List.getElem?_append_right (by omega), hAl, Nat.sub_self]; rfl
      · rw [hput, hi, List.set_append_right _ _ (by omega), hAl, Nat.sub_self]; rfl
      · left
        rw [hn, List.append_nil] at hpl
        rw [hpl] at hlast
        cases hg : A.getLast? with
        | none =>
          rw [hg] at hlast
          simp only [Option.map_none, Option.getD_none] at hlast
          have := place_ge s p.sn; omega
        | some x =>
          rw [hg] at hlast
          simp only [Option.map_some, Option.getD_some] at hlast
          have := hA x (by rw [← hAe]; exact List.mem_of_getLast? hg)
          omega
      · rw [hpl, List.getLast?_append]
        rw [List.drop_append, hAl, Nat.sub_self, List.drop_zero, List.drop_of_length_le (by omega), List.nil_append]
        cases hg : (s.parts.drop (atP s p.sn)).getLast? with
        | none => exact absurd (List.getLast?_eq_none_iff.1 hg) hn
        | some x => rfl
    · have hi : insS s p = A ++ y :: B := by rw [insS, if_pos hf, hpl, hd]
      rw [hd, List.pairwise_cons] at hascd
      have hym : y ∈ s.parts := List.mem_of_getElem? hg
      have hr2 := hr
      unfold refusedS at hr2
      rw [if_neg hold', hg] at hr2
      dsimp only at hr2
      rw [if_pos hysn] at hr2
      have hyd : y.done = false := by
        cases hyd : y.done with
        | false => rfl
        | true => rw [hyd] at hr2; simp at hr2
      rw [if_neg (by rw [hyd]; decide)] at hr2
      have hyc : contraB y p = false := by
        cases hyc : contraB y p with
        | false => rfl
        | true => rw [hyc] at hr2; simp at hr2
      refine ⟨y, B, open_of hyd (h.all y hym).1, hysn, hyc, ?_, ?_, fun z hz => ⟨List.mem_of_mem_drop (i := atP s p.sn) (by rw [hd]; simp [hz]), hB z hz⟩, hascd.2, fun hn => ?_, fun hn => ?_⟩
      · unfold mergedS; rw [hi, List.getElem?_append_right (by omega), hAl, Nat.sub_self]; rfl
      · rw [hput, hi, List.set_append_right _ _ (by omega), hAl, Nat.sub_self]; rfl
      · right
        rw [hn] at hd
        rw [hpl, hd, last_app] at hlast
        simp only [List.getLast?_nil, Option.getD_none, Option.map_some, Option.getD_some, hysn] at hlast
        exact hlast
      · rw [hpl, hd, last_app]
        cases hg2 : B.getLast? with
        | none => exact absurd (List.getLast?_eq_none_iff.1 hg2) hn
        | some x => rfl
  obtain ⟨x, B, hox, hxs, hxc, hmg, hparts, hBm, hBa, hB0, hB1⟩ := key
  have hys : y'.sn = p.sn := by
    rw [hy']
    split
    · rfl
    · rw [hmg]; exact hxs
  have hyp : paB y' = true := by
    rw [hy']
    by_cases hc : compB (mergedS s p) = true
    · rw [if_pos hc]; rfl
    · rw [if_neg hc, hmg]
      exact merge_pa hox hxs hp3 hxc (by rw [← hmg]; simpa using hc)
  have hpl2 : ∀ n, (putP s p).place n = s.place n := fun _ => rfl
  have hnx : (putP s p).next = if s.place p.sn ≥ s.place s.next then s.behind p.sn else s.next := rfl
  have hpn : s.place (putP s p).next = if s.place p.sn ≥ s.place s.next then s.place p.sn + 1 else s.place s.next := by
    rw [hnx]
    split
    · exact place_behind hb h.f hsn hold
    · rfl
  have hge : s.place s.next ≤ s.place (putP s p).next := by rw [hpn]; split <;> omega
  have hge2 : s.place p.sn < s.place (putP s p).next := by rw [hpn]; split <;> omega
  refine ⟨h.lk, h.f, ?_, h.u, ?_, h.q, ?_, ?_, ?_⟩
  · show snOk s.lk.bits (putP s p).next
    rw [hnx]
    split
    · exact behind_ok hb _
    · exact h.n
  · show s.place (putP s p).next ≤ 2 ^ (s.lk.bits - 1).toNat
    have := h.half
    rw [hpn]; split <;> omega
  · intro z hz
    rw [hparts] at hz
    show paB z = true ∧ snOk s.lk.bits z.sn ∧ s.place z.sn < s.place (putP s p).next
    rcases List.mem_append.1 hz with hz | hz
    · have := h.all z (by rw [hpl]; exact List.mem_append_left _ hz)
      exact ⟨this.1, this.2.1, by omega⟩
    · rcases List.mem_cons.1 hz with rfl | hz
      · exact ⟨hyp, by rw [hys]; exact hsn, by rw [hys]; exact hge2⟩
      · have := h.all z (hBm z hz).1
        exact ⟨this.1, this.2.1, by omega⟩
  · show (putP s p).parts.Pairwise fun x y => s.place x.sn < s.place y.sn
    rw [hparts, List.pairwise_append]
    refine ⟨?_, List.pairwise_cons.2 ⟨fun z hz => ?_, hBa⟩, fun z hz u hu => ?_⟩
    · have := h.asc.take (i := atP s p.sn); rwa [← hAe] at this
    · rw [hys]; exact (hBm z hz).2
    · have h1 := hA z (by rw [← hAe]; exact hz)
      rcases List.mem_cons.1 hu with rfl | hu
      · rw [hys]; exact h1
      · have := (hBm u hu).2; omega
  · show (((putP s p).parts.getLast?).map fun x => s.place x.sn).getD (-1) = s.place (putP s p).next - 1
    rw [hparts, last_app, hpn]
    simp only [Option.map_some, Option.getD_some]
    by_cases hBe : B = []
    · rw [hBe]
      simp only [List.getLast?_nil, Option.getD_none, hys]
      rcases hB0 hBe with h1 | h1
      · rw [if_pos h1]; omega
      · rw [if_neg (by omega)]; omega
    · have h1 := hB1 hBe
      cases hg : B.getLast? with
      | none => rw [List.getLast?_eq_none_iff] at hg; exact absurd hg hBe
      | some z =>
        have hl := h.last
        rw [← h1, hg] at hl
        simp only [Option.map_some, Option.getD_some] at hl
        have := (hBm z (List.mem_of_getLast? hg)).2
        rw [if_neg (by omega)]
        simp only [Option.getD_some]
        exact hl
theorem rec_ok {s : Rc} {bs : List Int} (h : s.okB = true) (hg : ∀ b bs, (decP b bs).2 = 0 → (decP b bs).1.ok b) : (recS s bs).1.okB = true := by
  obtain ⟨hc, hu, hf, hm⟩ := ok_iff.1 h
  unfold recS
  rw [if_neg (by rw [h]; decide)]
  dsimp only
  by_cases h2 : (decP s.lk.bits bs).2 ≠ 0
  · rw [if_pos h2]; exact h
  rw [if_neg h2]
  by_cases h3 : refusedS s (decP s.lk.bits bs).1 ≠ 0
  · rw [if_pos h3]; exact poll_ok h
  rw [if_neg h3]
  refine poll_ok ?_
  have hk := put_core hc (hg _ _ (by simpa using h2)) (by simpa using h3)
  obtain ⟨a1, a2, a3⟩ := adv_ok hk
  refine start_ok a1 a2 a3 ?_
  have hw := mark_w hm
  have e : ∀ t : Rc, (advS t).mark = t.mark ∧ (advS t).left = t.left ∧ (advS t).lk = t.lk := fun t => by unfold advS adv2; split <;> exact ⟨rfl, rfl, rfl⟩
  obtain ⟨e1, e2, e3⟩ := e (putP s (decP s.lk.bits bs).1)
  unfold MarkW
  rw [e1, e2, e3]
  exact hw
theorem new_ok {l : Lk} (h : lkOk l) {f : Int} (hf : snOk l.bits f) : Rc.okB ⟨l, f, f, f, -1, 0, 0, false, []⟩ = true := by
  refine ok_iff.2 ⟨⟨h, hf, hf, hf, ?_, ⟨Int.le_refl _, h.2.2.2.2.1.1⟩, fun x hx => by simp at hx, .nil, ?_⟩, Int.le_refl _, fun x hx => by simp at hx, rfl⟩
  · have := pow_bits1 h.1
    rw [show Rc.place ⟨l, f, f, f, -1, 0, 0, false, []⟩ f = 0 from place_self _]
    show (0 : Int) ≤ 2 ^ (l.bits - 1).toNat
    omega
  · rw [show Rc.place ⟨l, f, f, f, -1, 0, 0, false, []⟩ f = 0 from place_self _]; rfl
end Go.Sx
namespace Go.Proofs.YthceaojjeokclaaGreat
open Go.Sx Go.RowKit

theorem made_Light_ct {t_a : Option Addr} {t_l : Nat} {t_c : Nat} {w : World} :
    Calls Tryz.prog N_made_Light #[(.slice t_a t_l t_c)] w fun e w' => e = .returned (.bool (decide ((t_l : Int) ≤ (400 : Int)))) ∧ Below w.heap.size w w' := by
  apply F_made_Light_ok
  unfold F_made_Light
  exact ⟨rfl, .refl _ _⟩
def modI (n m : Int) : Int := if m < 1 then 0 else n % m
theorem modI_range (n m : Int) (h : 1 ≤ m) : 0 ≤ modI n m ∧ modI n m < m := by
  unfold modI
  rw [if_neg (by omega)]
  exact ⟨Int.emod_nonneg _ (by omega), Int.emod_lt_of_pos _ (by omega)⟩
theorem made_Mod_ct (n m : Int) (hm : m ≤ 9223372036854775807) {w : World} : Calls Tryz.prog N_made_Mod #[.int .i64 n, .int .i64 m] w fun e w' => e = .returned (.int .i64 (modI n m)) ∧ Below w.heap.size w w' := by
  apply F_made_Mod_ok
  unfold F_made_Mod
  refine bsplit_dec (fun h => ?_) (fun h => ⟨by omega, ?_⟩)
  · exact ⟨by rw [modI, if_pos h], .refl _ _⟩
  have e1 : modI n m = n % m := by rw [modI, if_neg h]
  have h1 := Int.emod_nonneg n (show m ≠ 0 by omega)
  have h2 := Int.emod_lt_of_pos n (show 0 < m by omega)
  have e2 := @Int.tmod_eq_emod n m
  have e3 : (m.natAbs : Int) = m := by omega
  refine kLet_in ?_
  refine bsplit_dec (fun h => ?_) (fun h => ?_)
  · split at e2
    · omega
    refine kW_i64 (by omega) ?_
    exact ⟨by rw [e1, show n.tmod m + m = n % m by omega], .refl _ _⟩
  · have : n.tmod m = n % m := by
      split at e2 <;> omega
    exact ⟨by rw [this, e1], .refl _ _⟩

abbrev dice (g : Nat) (a : Option Addr) (c : Nat) (ts : List Int) (p : Nat) : Res := .blk g Ty_radiolinkmade_Dice [.slice a ts.length c, .int .i64 (p : Int)]
def Rolls (a : Option Addr) (ts : List Int) (P : World → Prop) : Prop := (∀ w, P w → SlR (IntC .i64) 1 w a ts) ∧ ts.length ≤ 1000000
theorem Rolls.and {a : Option Addr} {ts : List Int} {P : World → Prop} (h : Rolls a ts P) (Q : World → Prop) : Rolls a ts fun w => Q w ∧ P w := ⟨fun w k => h.1 w k.2, h.2⟩
theorem made_Roll_ct {a : Option Addr} {c : Nat} {ts : List Int} {w : World} :
    Calls Tryz.prog N_made_Roll #[(.slice a ts.length c)] w fun e w' => ∃ g, e = .returned (.pointer (some ⟨g, 0, none⟩)) ∧ FreshR w w' [dice g a c ts 0] := by
  apply F_made_Roll_ok
  unfold F_made_Roll
  have H := St.nil w
  refine H.alloc ?_; clear H; intro b w1 H1
  exact ⟨b, rfl, H1⟩
section
variable {g : Nat} {a : Option Addr} {c : Nat} {ts : List Int} {p : Nat} {w : World} {A : Nat → Prop} {P : World → Prop}
theorem made_Next_ct (hP : Held A w P) (hts : Rolls a ts P) (hB : (dice g a c ts p).ok w) (hn : ∀ b, (dice g a c ts p).at = some b → ¬ A b) (hp : p ≤ ts.length) {n : Int} (hn2 : n ≤ 9223372036854775807) :
    Calls Tryz.prog N_made_Dice_Next #[(.pointer (some ⟨g, 0, none⟩)), (.int .i64 n)] w fun e w' => ∃ v p', e = .returned (.int .i64 v) ∧ (1 ≤ n → 0 ≤ v ∧ v < n) ∧ p' ≤ ts.length ∧ St A [g] w w' [dice g a c ts p'] P := by
  apply F_made_Dice_Next_ok
  unfold F_made_Dice_Next
  have hlen := hts.2
  have H : St A [g] w w [dice g a c ts p] P := St.startM hP hB hn
  refine H.drew ?_; clear H; intro w1 H1
  refine H1.ld (i := 0) rfl rfl ?_
  refine H1.ldS (i := 0) rfl rfl ?_
  refine bsplit_dec (fun c => ?_) (fun c => ?_)
  · exact ⟨0, p, rfl, fun h => by omega, hp, H1⟩
  · refine H1.ld (i := 0) rfl rfl ?_
    refine kW_i64 (by omega) ?_
    refine H1.set (i := 0) rfl (by simp) ?_; clear H1; intro w2 H2
    refine H2.drew ?_; clear H2; intro w3 H3
    have hs := hts.1 _ H3.get
    obtain ⟨q, rfl, hq⟩ := hs.get (i := p) (by omega)
    refine ⟨(· < w3.heap.size), ?_⟩
    refine H3.ldS (i := 0) rfl rfl ?_
    refine H3.ld (i := 0) rfl rfl ?_
    refine kW_i64 (by omega) ?_
    have e1 : ((p : Int) + 1 - 1).toNat = p := by omega
    refine ⟨q, rfl, ⟨by omega, by omega⟩, ?_⟩
    rw [e1]
    refine ⟨ts[p], hq, ?_⟩
    refine (made_Mod_ct _ _ hn2).mono ?_
    rintro _ w4 ⟨rfl, hb4⟩; have H4 := H3.pass hb4
    refine ⟨_, rfl, ?_⟩
    refine ⟨hb4.keeps, ?_⟩
    exact ⟨_, p + 1, rfl, fun h => modI_range _ _ h, by omega, H4⟩
end
section
variable {A0 : Nat → Prop} {M : List Nat} {w0 w : World} {R : List Res} {P : World → Prop} {i g : Nat} {a : Option Addr} {c : Nat} {ts : List Int} {p : Nat}
theorem dNext (H : St A0 M w0 w R P) (hi : R[i]? = some (dice g a c ts p)) (hts : Rolls a ts P) (hp : p ≤ ts.length) {n : Int} (hn : n ≤ 9223372036854775807) {K : Int → World → Prop}
    (h : ∀ v p' w', Fr [g] w w' → (1 ≤ n → 0 ≤ v ∧ v < n) → p' ≤ ts.length → St A0 M w0 w' (R.set i (dice g a c ts p')) P → K v w') :
    Calls Tryz.prog N_made_Dice_Next #[(.pointer (some ⟨g, 0, none⟩)), (.int .i64 n)] w fun e w' => ∃ r : Int, e = .returned (.int .i64 r) ∧ K r w' := by
  obtain ⟨A, hA, hn', hr, hc⟩ := H.callM hi
  refine (made_Next_ct hA hts hr hn' hp hn).mono ?_
  rintro _ w2 ⟨v, p', rfl, hv, hp', S⟩
  have := hc S
  rw [List.append_nil] at this
  exact ⟨v, rfl, h v p' w2 S.fr hv hp' (this.imp fun _ h => h.2)⟩
theorem made_One_ct (H : St A0 M w0 w R P) (hi : R[i]? = some (dice g a c ts p)) (hts : Rolls a ts P) (hp : p ≤ ts.length) {n : Int} (hn : -9223372036854775807 ≤ n ∧ n ≤ 9223372036854775807) {K : Bool → World → Prop}
    (h : ∀ v p' w', Fr [g] w w' → p' ≤ ts.length → St A0 M w0 w' (R.set i (dice g a c ts p')) P → K v w') :
    Calls Tryz.prog N_made_Dice_One #[(.pointer (some ⟨g, 0, none⟩)), (.int .i64 n)] w fun e w' => ∃ r : Bool, e = .returned (.bool r) ∧ K r w' := by
  apply F_made_Dice_One_ok
  unfold F_made_Dice_One
  refine dNext H hi hts hp hn.2 fun v p' w' hf _ hp' H' => ?_
  refine kW_i64 (by omega) ?_
  refine kLet_in ?_
  exact ⟨_, rfl, h _ p' w' hf hp' H'⟩
theorem dBits (H : St A0 M w0 w R P) (hi : R[i]? = some (dice g a c ts p)) (hts : Rolls a ts P) (hp : p ≤ ts.length) {K : Int → World → Prop}
    (h : ∀ v p' w', 5 ≤ v ∧ v ≤ 9 → p' ≤ ts.length → St A0 M w0 w' (R.set i (dice g a c ts p')) P → K v w') :
    Calls Tryz.prog N_made_Dice_Bits #[(.pointer (some ⟨g, 0, none⟩))] w fun e w' => ∃ r : Int, e = .returned (.int .i64 r) ∧ K r w' := by
  apply F_made_Dice_Bits_ok
  unfold F_made_Dice_Bits
  refine H.alloc ?_; intro b w1 H1
  have hlt : i < R.length := by
    rcases Nat.lt_or_ge i R.length with h | h
    · exact h
    · rw [List.getElem?_eq_none h] at hi; cases hi
  refine dNext H1 (i := i) (by rw [List.getElem?_append_left hlt]; exact hi) hts hp (by omega) fun v p' w2 hf hv hp' H2 => ?_
  rw [List.set_append_left _ _ hlt] at H2
  have hv := hv (by omega)
  obtain ⟨k, rfl⟩ := natOf hv.1
  have hj : (R.set i (dice g a c ts p') ++ [Res.blk b Ty_int [.int .i64 5, .int .i64 5, .int .i64 6, .int .i64 9]])[R.length]? = some (.blk b Ty_int [.int .i64 5, .int .i64 5, .int .i64 6, .int .i64 9]) := by
    rw [List.getElem?_append_right (by simp)]; simp
  have hv2 : ∃ x : Int, ([Value.int .i64 5, .int .i64 5, .int .i64 6, .int .i64 9] : List Value)[k]? = some (.int .i64 x) ∧ 5 ≤ x ∧ x ≤ 9 := by
    rcases (show k = 0 ∨ k = 1 ∨ k = 2 ∨ k = 3 by omega) with rfl | rfl | rfl | rfl
    · exact ⟨5, rfl, by omega⟩
    · exact ⟨5, rfl, by omega⟩
    · exact ⟨6, rfl, by omega⟩
    · exact ⟨9, rfl, by omega⟩
  obtain ⟨x, hx, hr⟩ := hv2
  refine ⟨⟨b, 0, none⟩, rfl, ⟨by omega, by omega⟩, ?_⟩
  rw [Int.toNat_natCast, Nat.mul_one]
  show kLd _ (Addr.add ⟨b, 0, none⟩ k) _ _
  rw [add_mk, Nat.zero_add]
  refine H2.ld hj hx ?_
  exact ⟨x, rfl, h x p' w2 hr hp' H2.dropLast⟩
end

section
variable {g : Nat} {a : Option Addr} {c : Nat} {ts : List Int} {p : Nat} {w : World} {A : Nat → Prop} {P : World → Prop}
theorem made_Spoil_ct (hP : Held A w P) (hts : Rolls a ts P) (hB : (dice g a c ts p).ok w) (hn : ∀ b, (dice g a c ts p).at = some b → ¬ A b) (hp : p ≤ ts.length) {b_a : Option Addr} {b_c : Nat} {bs : List Int} (hs : SlR (IntC .u8) 1 w b_a bs) (hb : Bytes bs) (hl : bs.length ≤ 1000000) :
    Calls Tryz.prog N_made_Dice_Spoil #[(.pointer (some ⟨g, 0, none⟩)), (.slice b_a bs.length b_c)] w fun e w' => ∃ ra rc zs p', e = .returned (.slice ra zs.length rc) ∧ Bytes zs ∧ zs.length ≤ bs.length + 1 ∧ p' ≤ ts.length ∧
      St A [g] w w' [dice g a c ts p', .ints Ty_uint8 .u8 ra rc zs] P := by
  have bytes_cons : ∀ {x : Int} {l : List Int}, 0 ≤ x ∧ x < 256 → Bytes l → Bytes (x :: l) := fun {x l} hx h i hi => by
    cases i with
    | zero => exact hx
    | succ i => simp only [List.getElem_cons_succ]; exact h i (by simpa using hi)
  have bytes_app : ∀ {l m : List Int}, Bytes l → Bytes m → Bytes (l ++ m) := fun {l m} h k i hi => by
    by_cases hlt : i < l.length
    · rw [List.getElem_append_left hlt]; exact h i hlt
    · rw [List.getElem_append_right (by omega)]; exact k _ (by simp at hi; omega)
  have bytes_take : ∀ n, Bytes (bs.take n) := fun n i hi => by simp only [List.getElem_take]; exact hb i (by simp at hi; omega)
  have bytes_drop : ∀ n, Bytes (bs.drop n) := fun n i hi => by simp only [List.getElem_drop]; exact hb _ (by simp at hi; omega)
  have bytes_set : ∀ n x, 0 ≤ x ∧ x < 256 → Bytes (bs.set n x) := fun n x hx i hi => by
    rw [List.getElem_set]; split
    · exact hx
    · exact hb i (by simpa using hi)
  apply F_made_Dice_Spoil_ok
  unfold F_made_Dice_Spoil
  have H : St A [g] w w [dice g a c ts p] P := St.startM hP hB hn
  have H := H.nilI Ty_uint8 .u8
  refine H.appI (i := 1) rfl sl_Ty_S_uint8 hs (by simp; omega) (by simp; omega) ?_; intro x_a x_c w1 H1
  rw [List.nil_append] at H1 ⊢
  clear H
  refine dNext H1 (i := 0) rfl hts hp (by omega) fun v p1 w2 _ hv hp1 H2 => ?_
  have hv := hv (by omega)
  clear H1
  refine kWu8 ?_
  have hvb : 0 ≤ v % 256 ∧ v % 256 < 256 := by omega
  refine bsplit_dec (fun c3 => ?_) (fun c3 => ?_)
  · refine H2.alloc ?_; clear H2; intro b w3 H3
    have H3 := H3.litI (i := 2) [v % 256] rfl (by simp [maxLen])
    refine ⟨_, _, [v % 256], p1, rfl, bytes_cons hvb (fun i hi => by simp at hi), by simp, hp1, H3.sub (fun i => [0, 2].getD i 0) ?_ ?_⟩
    · rintro (_ | _ | _) r h <;> first | exact h | cases h
    · intro i j hi hj; simp only [List.length_cons, List.length_nil] at hi hj; rcases i with _ | _ | i <;> rcases j with _ | _ | j <;> simp <;> omega
  refine dNext H2 (i := 0) rfl hts hp1 (by omega) fun k p2 w4 _ hk hp2 H4 => ?_
  clear H2
  have hk := hk (by omega)
  obtain ⟨k, rfl⟩ := natOf hk.1
  refine dNext H4 (i := 0) rfl hts hp2 (by omega) fun q p3 w5 _ hq hp3 H5 => ?_
  clear H4
  simp only [List.cons_append, List.nil_append, List.set_cons_zero, List.set_cons_succ] at H5
  obtain ⟨gb, rfl, hat, _⟩ := H5.rowSome (i := 1) rfl (by omega)
  have hcap := H5.capI (i := 1) rfl
  refine kLet_in ?_
  refine bsplit_dec (fun c2 => ?_) (fun c2 => ?_)
  · refine kIx_at ⟨by omega, by omega⟩ ?_
    rw [add_mk, Int.toNat_natCast, Nat.mul_one, Nat.zero_add]
    refine H5.setI (i := 1) rfl (by omega) fun w6 _ H6 => ?_
    exact ⟨_, _, bs.set k (v % 256), p3, by simp, bytes_set _ _ hvb, by simp, hp3, H6⟩
  refine kLet_in ?_
  refine bsplit_dec (fun c1 => ?_) (fun c1 => ?_)
  · refine H5.drew ?_; clear H5; intro w7 H7
    have hne : gb ≠ g := H7.ne (i := 1) (j := 0) rfl rfl (by decide) rfl rfl
    refine ⟨fun x => x < w7.heap.size ∧ x ∉ [g], ?_⟩
    refine kIx_at ⟨by omega, by omega⟩ ?_
    rw [add_mk, Int.toNat_natCast, Nat.mul_one, Nat.zero_add]
    have hcell := H7.cellRow (i := 1) rfl (show (bs.map (Value.int .u8))[k]? = some (.int .u8 bs[k]) by rw [List.getElem?_map, List.getElem?_eq_getElem (by omega)]; rfl)
    refine ⟨⟨H7.lt (i := 1) rfl rfl, nin1 hne⟩, bs[k], hcell, ?_⟩
    refine dNext H7 (i := 0) rfl hts hp3 (by omega) fun u p4 w8 f8 hu hp4 H8 => ?_
    refine ⟨f8.keeps, ?_⟩
    refine kW_u64 (by omega) ?_
    refine ⟨by omega, ?_⟩
    refine kWu8 ?_
    refine kLet_intro fun x6 hx6 => ?_
    refine kIx_at ⟨by omega, by omega⟩ ?_
    rw [add_mk, Nat.zero_add]
    have hx : 0 ≤ x6 ∧ x6 < 256 := by
      rw [hx6]; unfold bXor
      show 0 ≤ (_ : Int) % 256 ∧ _ % 256 < 256
      omega
    refine H8.setI (i := 1) rfl (by omega) fun w9 _ H9 => ?_
    exact ⟨_, _, bs.set k x6, p4, by simp, bytes_set _ _ hx, by simp, hp4, H9⟩
  refine kLet_in ?_
  refine bsplit_dec (fun c => ?_) (fun c => ?_)
  · refine H5.drew ?_; clear H5; intro w10 H10
    refine ⟨fun _ => False, ?_⟩
    refine ⟨⟨by omega, by omega⟩, ?_⟩
    refine kW_i64 (by omega) ?_
    refine ⟨⟨by omega, by omega⟩, ?_⟩
    have hold := H10.slI (i := 1) rfl
    have H10 := H10.shrinkI (i := 1) rfl k (by omega)
    have e1 : slAddr x_c 0 1 (some (⟨gb, 0, none⟩ : Addr)) = some ⟨gb, 0, none⟩ := by unfold slAddr; split <;> rfl
    have e2 : (k : Int).toNat - 0 = (bs.take k).length := by simp; omega
    have e3 : bs.length - ((k : Int) + 1).toNat = (bs.drop (k + 1)).length := by simp
    have e4 : ((k : Int) + 1).toNat = k + 1 := by omega
    rw [e1, e2, e3, e4]
    refine H10.appI (i := 1) rfl sl_Ty_S_uint8 (hold.tail hcap) (by simp; omega) (by simp; omega) ?_; intro x_a1 x_c1 w11 H11
    refine ⟨fun _ _ h => h.elim, ?_⟩
    exact ⟨_, _, _, p3, rfl, bytes_app (bytes_take _) (bytes_drop _), by simp only [List.length_append, List.length_take, List.length_drop]; omega, hp3, H11⟩
  · refine H5.drew ?_; clear H5; intro w12 H12
    refine ⟨fun _ => False, ?_⟩
    refine ⟨⟨by omega, by omega⟩, ?_⟩
    refine ⟨⟨by omega, by omega⟩, ?_⟩
    refine H12.alloc ?_; clear H12; intro b4 w13 H13
    refine ⟨fun _ _ h => h.elim, ?_⟩
    have H13 := H13.litI (i := 2) [v % 256] rfl (by simp [maxLen])
    have e1 : slAddr x_c 0 1 (some (⟨gb, 0, none⟩ : Addr)) = some ⟨gb, 0, none⟩ := by unfold slAddr; split <;> rfl
    have e2 : (k : Int).toNat - 0 = (bs.take k).length := by simp; omega
    have e3 : bs.length - (k : Int).toNat = (bs.drop k).length := by simp
    rw [e1, e2, e3, Int.toNat_natCast]
    refine H13.appI (i := 2) rfl sl_Ty_S_uint8 ((H13.slI (i := 1) rfl).tail hcap) (by simp; omega) (by simp; omega) ?_; intro x_a2 x_c2 w14 H14
    refine ⟨fun _ _ h => h.elim, ?_⟩
    have H14 := H14.shrinkI (i := 1) rfl k (by omega)
    refine H14.appI (i := 1) rfl sl_Ty_S_uint8 (H14.slI (i := 2) rfl) (by simp; omega) (by simp; omega) ?_; intro x_a3 x_c3 w15 H15
    refine ⟨fun _ _ h => h.elim, ?_⟩
    simp only [List.cons_append, List.nil_append, List.set_cons_zero, List.set_cons_succ] at H15
    refine ⟨_, _, _, p3, rfl, bytes_app (bytes_take _) (bytes_cons hvb (bytes_drop _)), by simp only [List.length_append, List.length_take, List.length_cons, List.length_nil, List.length_drop]; omega, hp3, H15.dropLast (R := [_, _])⟩
end
end Go.Proofs.YthceaojjeokclaaGreat
namespace Go.Proofs.YthceaojjeokclaaGreat
open Go.Sx Go.RowKit
set_option maxRecDepth 100000
theorem low_pow {b x : Int} (hb : bitsOk b) : (if 1 ≤ b ∧ b ≤ 32 then x % 2 ^ b.toNat else -1) = x % 2 ^ b.toNat := by
  obtain ⟨h1, h2⟩ := hb
  rw [if_pos (by omega)]
def fillB (seed : Int) (n : Nat) : List Int := (List.range n).map fun i : Nat => (seed + 7 * (i : Int) + (i : Int) / 16) % 256
theorem fillB_len (seed : Int) (n : Nat) : (fillB seed n).length = n := by simp [fillB]
theorem fillB_succ (seed : Int) (n : Nat) : fillB seed (n + 1) = fillB seed n ++ [(seed + 7 * (n : Int) + (n : Int) / 16) % 256] := by simp [fillB, List.range_succ]
theorem fillB_bytes (seed : Int) (n : Nat) : Bytes (fillB seed n) := fun i hi => by simp [fillB]; omega
theorem made_Filled_ct {n : Nat} {seed : Int} {w : World} (hn : n ≤ 100000) (hs : 0 ≤ seed ∧ seed ≤ 1000) :
    Calls Tryz.prog N_made_Filled #[(.int .i64 n), (.int .i64 seed)] w fun e w' => ∃ a c, e = .returned (.slice a n c) ∧ FreshR w w' [.ints Ty_uint8 .u8 a c (fillB seed n)] := by
  apply F_made_Filled_ok
  unfold F_made_Filled
  have H := (St.nil w).nilI Ty_uint8 .u8
  refine ⟨fun b_a b_l b_c i => ((n - i).toNat, fun w1 => ∃ k : Nat, i = k ∧ k ≤ n ∧ b_l = (fillB seed k).length ∧ FreshR w w1 [.ints Ty_uint8 .u8 b_a b_c (fillB seed k)]), ⟨0, rfl, by omega, rfl, H⟩, ?_⟩
  clear H
  rintro _ b_a b_l b_c i w1 ⟨k, rfl, hk, rfl, H1⟩
  refine bsplit_dec (fun c => ?_) (fun c => ?_)
  · refine kW_i64 (by omega) ?_
    refine kW_i64 (by omega) ?_
    have e16 : Int.tdiv (k : Int) 16 = (k : Int) / 16 := Int.tdiv_eq_ediv_of_nonneg (by omega)
    rw [e16]
    refine kW_i64 (by omega) ?_
    refine kW_i64 (by omega) ?_
    refine kWu8 ?_
    refine H1.alloc ?_; clear H1; intro b w2 H2
    have hl := fillB_len seed k
    refine H2.appIB (i := 0) (j := 1) rfl [(seed + 7 * (k : Int) + (k : Int) / 16) % 256] rfl sl_Ty_S_uint8 rfl (by rw [hl]; simp; omega) (by rw [hl]; simp; omega) ?_
    intro x_a x_c w3 H3
    rw [← fillB_succ] at H3 ⊢
    refine kW_i64 (by omega) ?_
    refine ⟨⟨k + 1, by omega, by omega, rfl, H3.sub (R' := [_]) id (fun i r hi => by
      rcases i with _ | i
      · exact hi
      · simp at hi) (fun i j _ _ h => h)⟩, by first | omega | (dsimp only; omega)⟩
  · obtain rfl : k = n := by omega
    rw [fillB_len]
    exact ⟨_, _, rfl, H1⟩
section
variable {g : Nat} {a : Option Addr} {c : Nat} {ts : List Int} {p : Nat} {w : World} {A : Nat → Prop} {P : World → Prop}
theorem made_Link_ct (hP : Held A w P) (hts : Rolls a ts P) (hB : (dice g a c ts p).ok w) (hn : ∀ b, (dice g a c ts p).at = some b → ¬ A b) (hp : p ≤ ts.length) :
    Calls Tryz.prog N_made_Dice_Link #[(.pointer (some ⟨g, 0, none⟩))] w fun e w' => ∃ (l : Lk) (p' : Nat), e = .returned (.agg #[.int .i64 l.bits, .int .i64 l.every, .int .i64 l.poll, .int .i64 l.wait, .int .i64 l.quiet, .int .i64 l.tries]) ∧ lkOk l ∧ p' ≤ ts.length ∧ St A [g] w w' [dice g a c ts p'] P := by
  apply F_made_Dice_Link_ok
  unfold F_made_Dice_Link
  have H : St A [g] w w [dice g a c ts p] P := St.startM hP hB hn
  refine H.alloc ?_; clear H; intro b w1 H1
  refine dBits H1 (i := 0) rfl hts hp fun v0 p1 w2 h0 hp1 H2 => ?_
  refine dNext H2 (i := 0) rfl hts hp1 (by omega) fun v1 p2 w3 _ h1 hp2 H3 => ?_
  have h1 := h1 (by omega)
  refine kW_i64 (by omega) ?_
  refine dNext H3 (i := 0) rfl hts hp2 (by omega) fun v2 p3 w4 _ h2 hp3 H4 => ?_
  have h2 := h2 (by omega)
  refine kW_i64 (by omega) ?_
  refine dNext H4 (i := 0) rfl hts hp3 (by omega) fun v3 p4 w5 _ h3 hp4 H5 => ?_
  have h3 := h3 (by omega)
  refine kW_i64 (by omega) ?_
  refine dNext H5 (i := 0) rfl hts hp4 (by omega) fun v4 p5 w6 _ h4 hp5 H6 => ?_
  have h4 := h4 (by omega)
  refine dNext H6 (i := 0) rfl hts hp5 (by omega) fun v5 p6 w7 _ h5 hp6 H7 => ?_
  have h5 := h5 (by omega)
  refine kW_i64 (by omega) ?_
  simp only [List.cons_append, List.nil_append, List.set_cons_zero] at H7
  refine H7.store (i := 1) rfl (by rfl) (by rfl) ?_; intro w8 H8
  simp only [List.set_cons_succ, List.set_cons_zero] at H8
  refine ⟨_, _, _, _, _, _, H8.cells (i := 1) rfl, ?_⟩
  exact ⟨⟨v0, 1 + v1, 1 + v2, 1 + v3, v4, 1 + v5⟩, p6, rfl, ⟨h0, ⟨by dsimp only; omega, by dsimp only; omega⟩, ⟨by dsimp only; omega, by dsimp only; omega⟩, ⟨by dsimp only; omega, by dsimp only; omega⟩, ⟨by dsimp only; omega, by dsimp only; omega⟩, by dsimp only; omega, by dsimp only; omega⟩, hp6, St.dropLast (R := [_]) H8⟩
end
section
variable {A0 : Nat → Prop} {M : List Nat} {w0 w : World} {R : List Res} {P : World → Prop} {i g : Nat} {a : Option Addr} {c : Nat} {ts : List Int} {p : Nat}
theorem dLink (H : St A0 M w0 w R P) (hi : R[i]? = some (dice g a c ts p)) (hts : Rolls a ts P) (hp : p ≤ ts.length) {K : Lk → World → Prop}
    (h : ∀ l p' w', Fr [g] w w' → lkOk l → p' ≤ ts.length → St A0 M w0 w' (R.set i (dice g a c ts p')) P → K l w') :
    Calls Tryz.prog N_made_Dice_Link #[(.pointer (some ⟨g, 0, none⟩))] w fun e w' => ∃ l : Lk, e = .returned (.agg #[.int .i64 l.bits, .int .i64 l.every, .int .i64 l.poll, .int .i64 l.wait, .int .i64 l.quiet, .int .i64 l.tries]) ∧ K l w' := by
  obtain ⟨A, hA, hn', hr, hc⟩ := H.callM hi
  refine (made_Link_ct hA hts hr hn' hp).mono ?_
  rintro _ w2 ⟨l, p', rfl, hl, hp', S⟩
  have := hc S
  rw [List.append_nil] at this
  exact ⟨l, rfl, h l p' w2 S.fr hl hp' (this.imp fun _ h => h.2)⟩
end

section
variable {g : Nat} {a : Option Addr} {c : Nat} {ts : List Int} {p : Nat} {w : World} {A : Nat → Prop} {P : World → Prop}
theorem made_OddLink_ct {l : Lk} (hP : Held A w P) (hts : Rolls a ts P) (hB : (dice g a c ts p).ok w) (hn : ∀ b, (dice g a c ts p).at = some b → ¬ A b) (hp : p ≤ ts.length) :
    Calls Tryz.prog N_made_Dice_OddLink #[(.pointer (some ⟨g, 0, none⟩)), (.agg #[.int .i64 l.bits, .int .i64 l.every, .int .i64 l.poll, .int .i64 l.wait, .int .i64 l.quiet, .int .i64 l.tries])] w fun e w' =>
      ∃ (l : Lk) (p' : Nat), e = .returned (.agg #[.int .i64 l.bits, .int .i64 l.every, .int .i64 l.poll, .int .i64 l.wait, .int .i64 l.quiet, .int .i64 l.tries]) ∧ p' ≤ ts.length ∧ St A [g] w w' [dice g a c ts p'] P := by
  apply F_made_Dice_OddLink_ok
  unfold F_made_Dice_OddLink
  have H : St A [g] w w [dice g a c ts p] P := St.startM hP hB hn
  refine H.alloc ?_; clear H; intro b w1 H1
  refine H1.alloc ?_; clear H1; intro b1 w2 H2
  refine H2.alloc ?_; clear H2; intro b2 w3 H3
  simp only [List.cons_append, List.nil_append] at H3
  refine dNext H3 (i := 0) rfl hts hp (by omega) fun v p1 w4 _ hv hp1 H4 => ?_
  have hv := hv (by omega)
  simp only [List.set_cons_zero] at H4
  obtain ⟨k, rfl⟩ := natOf hv.1
  refine kIx_at ⟨by omega, by omega⟩ ?_
  obtain ⟨x, hx⟩ : ∃ x : Int, ([Value.int .i64 (-1), .int .i64 0, .int .i64 1, .int .i64 4, .int .i64 10, .int .i64 64, .int .i64 65, .int .i64 1000, .int .i64 1001, .int .i64 33] : List Value)[k]? = some (.int .i64 x) := by
    rcases (show k = 0 ∨ k = 1 ∨ k = 2 ∨ k = 3 ∨ k = 4 ∨ k = 5 ∨ k = 6 ∨ k = 7 ∨ k = 8 ∨ k = 9 by omega) with rfl | rfl | rfl | rfl | rfl | rfl | rfl | rfl | rfl | rfl <;> exact ⟨_, rfl⟩
  rw [add_mk, Nat.zero_add, Int.toNat_natCast, Nat.mul_one]
  refine ⟨x, H4.cell (i := 3) rfl hx, ?_⟩
  refine ⟨fun w12 => ∃ (m : Lk) (p' : Nat), p' ≤ ts.length ∧ St A [g] w w12 [dice g a c ts p', .blk b Ty_api_Link (encL m), .blk b1 Ty_api_Link (encL ⟨0, 0, 0, 0, 0, 0⟩)] P, ?_, ?_⟩
  · rintro _ w12 ⟨m, p', hp', H12⟩
    refine ⟨_, _, _, _, _, _, H12.cells (i := 1) rfl, ?_⟩
    refine H12.store (i := 2) rfl (by rfl) (by rfl) ?_; clear H12; intro w13 H13
    simp only [List.set_cons_succ, List.set_cons_zero] at H13
    refine ⟨_, _, _, _, _, _, H13.cells (i := 2) rfl, ?_⟩
    exact ⟨m, p', rfl, hp', St.left (X := [_]) H13⟩
  · refine dNext H4 (i := 0) rfl hts hp1 (by omega) fun v2 p2 w5 _ hv2 hp2 H5 => ?_
    simp only [List.set_cons_zero] at H5
    have fin : ∀ {w6 : World} (m : Lk), St A [g] w w6 [dice g a c ts p2, .blk b Ty_api_Link (encL m), .blk b1 Ty_api_Link (encL ⟨0, 0, 0, 0, 0, 0⟩), .blk b2 Ty_int [Value.int .i64 (-1), .int .i64 0, .int .i64 1, .int .i64 4, .int .i64 10, .int .i64 64, .int .i64 65, .int .i64 1000, .int .i64 1001, .int .i64 33]] P →
        ∃ (m : Lk) (p' : Nat), p' ≤ ts.length ∧ St A [g] w w6 [dice g a c ts p', .blk b Ty_api_Link (encL m), .blk b1 Ty_api_Link (encL ⟨0, 0, 0, 0, 0, 0⟩)] P := fun m H => ⟨m, p2, hp2, St.left (X := [_, _, _]) H⟩
    refine kLet_in ?_
    refine bsplit_dec (fun c4 => ?_) (fun c4 => ?_)
    · refine H5.set (i := 1) rfl (by show 0 < 6; decide) ?_; intro w6 H6
      simp only [List.set_cons_succ, List.set_cons_zero] at H6
      exact fin { l with bits := x } H6
    refine kLet_in ?_
    refine bsplit_dec (fun c4 => ?_) (fun c4 => ?_)
    · refine H5.set (i := 1) rfl (by show 1 < 6; decide) ?_; intro w6 H6
      simp only [List.set_cons_succ, List.set_cons_zero] at H6
      exact fin { l with every := x } H6
    refine kLet_in ?_
    refine bsplit_dec (fun c4 => ?_) (fun c4 => ?_)
    · refine H5.set (i := 1) rfl (by show 2 < 6; decide) ?_; intro w6 H6
      simp only [List.set_cons_succ, List.set_cons_zero] at H6
      exact fin { l with poll := x } H6
    refine kLet_in ?_
    refine bsplit_dec (fun c4 => ?_) (fun c4 => ?_)
    · refine H5.set (i := 1) rfl (by show 3 < 6; decide) ?_; intro w6 H6
      simp only [List.set_cons_succ, List.set_cons_zero] at H6
      exact fin { l with wait := x } H6
    refine kLet_in ?_
    refine bsplit_dec (fun c4 => ?_) (fun c4 => ?_)
    · refine H5.set (i := 1) rfl (by show 4 < 6; decide) ?_; intro w6 H6
      simp only [List.set_cons_succ, List.set_cons_zero] at H6
      exact fin { l with quiet := x } H6
    · refine H5.set (i := 1) rfl (by show 5 < 6; decide) ?_; intro w6 H6
      simp only [List.set_cons_succ, List.set_cons_zero] at H6
      exact fin { l with tries := x } H6
end
end Go.Proofs.YthceaojjeokclaaGreat
namespace Go.Proofs.YthceaojjeokclaaGreat
open Go.Sx Go.RowKit
set_option maxRecDepth 100000
theorem kNo {w w' : World} : KeepsB (fun _ => False) w w' := fun _ _ hp _ => hp.elim
theorem bytes_cut {u : List Int} (h : Bytes u) (f n : Nat) : Bytes ((u.drop f).take n) := by
  rw [bytes_mem] at *
  exact fun x hx => h x (List.mem_of_mem_drop (List.mem_of_mem_take hx))
theorem encP_bytes {b : Int} {p : Pc} (h : Bytes p.data) : Bytes (encP b p).1 := by
  unfold encP
  split
  · rename_i hp
    have hf := Pc.first_range hp
    obtain ⟨_, _, _, _, _, ho, _⟩ := hp
    rw [bytes_mem] at h ⊢
    intro x hx
    unfold Pc.bytes at hx
    simp only [List.mem_append] at hx
    rcases hx with (hx | hx) | hx
    · simp at hx; omega
    · split at hx
      · simp at hx
      · simp at hx; omega
    · exact h x hx
  · exact bytes_nil
theorem encP_len (b : Int) (p : Pc) : (encP b p).1.length ≤ p.data.length + 4 := by
  unfold encP Pc.bytes
  split
  · simp only [List.length_append, List.length_cons, List.length_nil]
    split <;> simp <;> omega
  · simp
abbrev rowsP (g : Nat) (a : Option Addr) (c : Nat) (ts : List Int) (p b b1 : Nat) (s : Rc) (sa : Option Addr) (sc : Nat) (T : List Res) : List Res :=
  dice g a c ts p :: .blk b Ty_api_Receiver (encRc s sa sc) :: .blk b1 Ty_api_Piece [.int .i64 0, .int .i64 0, .int .i64 0, .int .i64 0, .slice none 0 0] :: T
section
variable {g : Nat} {a : Option Addr} {c : Nat} {ts : List Int} {p : Nat} {w : World} {A : Nat → Prop} {P : World → Prop} {s : Rc} {sa : Option Addr} {sc : Nat}
theorem law21_piece_ct (hb : bitsOk s.lk.bits) (hf : snOk s.lk.bits s.first) (hP : Held A w P) (hts : Rolls a ts P) (hB : (dice g a c ts p).ok w) (hn : ∀ b, (dice g a c ts p).at = some b → ¬ A b) (hp : p ≤ ts.length) :
    Calls Tryz.prog N_law21_piece #[(.pointer (some ⟨g, 0, none⟩)), aggRc s sa sc] w fun e w' => ∃ (q : Pc) (qa : Option Addr) (qc : Nat) (ua : Option Addr) (uc : Nat) (u : List Int) (p' : Nat), e = .returned (aggPc q qa qc) ∧ q.data.length ≤ 30 ∧ Bytes q.data ∧ (∀ w, SlR (IntC .u8) 1 w ua u → SlR (IntC .u8) 1 w qa q.data) ∧ p' ≤ ts.length ∧
      St A [g] w w' [dice g a c ts p', .ints Ty_uint8 .u8 ua uc u] P := by
  have hb' := hb
  obtain ⟨hb1, hb2⟩ := hb'
  have hpw := pow_bits hb
  have hhf := pow_bits1 hb
  have hf' : 0 ≤ s.first ∧ s.first < 2 ^ s.lk.bits.toNat := hf
  apply F_law21_piece_ok
  unfold F_law21_piece
  have H : St A [g] w w [dice g a c ts p] P := St.startM hP hB hn
  refine H.alloc ?_; clear H; intro b w1 H1
  refine H1.alloc ?_; clear H1; intro b1 w2 H2
  replace H2 : St A [g] w w2 (rowsP g a c ts p b b1 s sa sc []) P := H2
  refine dNext H2 (i := 0) rfl hts hp (by omega) fun k0 p1 w3 _ hk0 hp1 H3 => ?_
  have hk0 := hk0 (by omega)
  replace H3 : St A [g] w w3 (rowsP g a c ts p1 b b1 s sa sc []) P := H3
  refine ⟨fun k w6 => (-10 ≤ k ∧ k ≤ 600) ∧ ∃ p', p' ≤ ts.length ∧ St A [g] w w6 (rowsP g a c ts p' b b1 s sa sc []) P, ?_, ?_⟩
  · rintro _ k w6 ⟨hk, p2, hp2, H6⟩
    refine H6.ld (i := 1) rfl rfl ?_
    refine H6.ld (i := 1) rfl rfl ?_
    refine kW_i64 (by omega) ?_
    refine ref02_Low_ct.mono ?_
    rintro _ w7 ⟨rfl, hb7⟩; have H7 := H6.pass hb7; clear H6
    rw [low_pow hb]
    refine ⟨_, rfl, ?_⟩
    obtain ⟨sn, hsn⟩ : ∃ sn, sn = (s.first + k) % 2 ^ s.lk.bits.toNat := ⟨_, rfl⟩
    have hsn1 : 0 ≤ sn ∧ sn < 1000 := by
      have h1 := Int.emod_nonneg (s.first + k) (b := 2 ^ s.lk.bits.toNat) (by omega)
      have h2 := Int.emod_lt_of_pos (s.first + k) (b := 2 ^ s.lk.bits.toNat) (by omega)
      omega
    rw [← hsn]
    refine kTmod (by omega) ?_
    refine kW_i64 (by omega) ?_
    obtain ⟨n, hn'⟩ : ∃ n : Nat, (4 : Int) + sn % 9 = n := natOf (by omega)
    rw [hn']
    refine (made_Filled_ct (n := n) (seed := sn) (by omega) (by omega)).mono ?_
    rintro _ w8 ⟨ua, uc, rfl, K8⟩; have H8 := H7.callR K8; clear H7 K8
    replace H8 : St A [g] w w8 (rowsP g a c ts p2 b b1 s sa sc [.ints Ty_uint8 .u8 ua uc (fillB sn n)]) P := H8
    refine ⟨_, _, _, rfl, ?_⟩
    refine ⟨fun ua ul uc w11 => ∃ (u : List Int) (p' : Nat), ul = u.length ∧ (1 ≤ u.length ∧ u.length ≤ 30) ∧ u.length ≤ uc ∧ Bytes u ∧ p' ≤ ts.length ∧ St A [g] w w11 (rowsP g a c ts p' b b1 s sa sc [.ints Ty_uint8 .u8 ua uc u]) P, ?_, ?_⟩
    · rintro _ ua _ uc w11 ⟨u, p3, rfl, hu, huc, hub, hp3, H11⟩
      refine dNext H11 (i := 0) rfl hts hp3 (by omega) fun f0 p4 w12 _ hf0 hp4 H12 => ?_
      have hf0 := hf0 (by omega)
      refine kW_i64 (by omega) ?_
      refine kW_i64 (by omega) ?_
      refine dNext H12 (i := 0) rfl hts hp4 (by omega) fun t0 p5 w13 _ ht0 hp5 H13 => ?_
      have ht0 := ht0 (by omega)
      replace H13 : St A [g] w w13 (rowsP g a c ts p5 b b1 s sa sc [.ints Ty_uint8 .u8 ua uc u]) P := H13
      refine kW_i64 (by omega) ?_
      refine ⟨fun f1 t1 w15 => (0 ≤ f1 ∧ f1 < t1 ∧ t1 ≤ u.length) ∧ ∃ p', p' ≤ ts.length ∧ St A [g] w w15 (rowsP g a c ts p' b b1 s sa sc [.ints Ty_uint8 .u8 ua uc u]) P, ?_, ?_⟩
      · rintro _ f1 t1 w15 ⟨hft, p6, hp6, H15⟩
        refine ⟨fun pp w25 => ∃ (pb p' : Nat) (v : Int), pp = (⟨pb, 0, none⟩ : Addr) ∧ p' ≤ ts.length ∧ St A [g] w w25 (rowsP g a c ts p' b b1 s sa sc [.ints Ty_uint8 .u8 ua uc u, .blk pb Ty_api_Piece [.int .i64 sn, .int .i64 3, .int .i64 v, .int .i64 f1, .slice (slAddr uc f1.toNat 1 ua) (t1.toNat - f1.toNat) (uc - f1.toNat)]]) P, ?_, ?_⟩
        · rintro _ _ w25 ⟨pb, p7, v, rfl, hp7, H25⟩
          have hql : ((u.drop f1.toNat).take (t1.toNat - f1.toNat)).length = t1.toNat - f1.toNat := by simp only [List.length_take, List.length_drop]; omega
          have fin : ∀ {w' : World} {part : Int} {r1 r2 r3 : Res}, St A [g] w w' [dice g a c ts p7, r1, r2, .ints Ty_uint8 .u8 ua uc u, r3] P →
              ∃ (q : Pc) (qa : Option Addr) (qc : Nat) (ua1 : Option Addr) (uc1 : Nat) (u1 : List Int) (p1 : Nat), Ending.returned (.agg #[.int .i64 sn, .int .i64 part, .int .i64 v, .int .i64 f1, .slice (slAddr uc f1.toNat 1 ua) (t1.toNat - f1.toNat) (uc - f1.toNat)]) = .returned (aggPc q qa qc) ∧ q.data.length ≤ 30 ∧ Bytes q.data ∧ (∀ w, SlR (IntC .u8) 1 w ua1 u1 → SlR (IntC .u8) 1 w qa q.data) ∧ p1 ≤ ts.length ∧
                St A [g] w w' [dice g a c ts p1, .ints Ty_uint8 .u8 ua1 uc1 u1] P := fun {w' part r1 r2 r3} H => by
            refine ⟨⟨sn, part, v, f1, (u.drop f1.toNat).take (t1.toNat - f1.toNat)⟩, slAddr uc f1.toNat 1 ua, uc - f1.toNat, ua, uc, u, p7, (by show _ = Ending.returned (.agg #[_, _, _, _, .slice _ ((u.drop f1.toNat).take (t1.toNat - f1.toNat)).length _]); rw [hql]), (by show ((u.drop f1.toNat).take (t1.toNat - f1.toNat)).length ≤ 30; rw [hql]; omega), bytes_cut hub _ _, fun w h => h.cut huc _, hp7, ?_⟩
            exact St.dropLast (R := [_, _]) (St.skip (X := [_]) (St.skip (X := [_]) H))
          refine ⟨fun x17 w26 => St A [g] w w26 (rowsP g a c ts p7 b b1 s sa sc [.ints Ty_uint8 .u8 ua uc u, .blk pb Ty_api_Piece [.int .i64 sn, .int .i64 3, .int .i64 v, .int .i64 f1, .slice (slAddr uc f1.toNat 1 ua) (t1.toNat - f1.toNat) (uc - f1.toNat)]]) P, ?_, ?_⟩
          · rintro _ x17 w26 H26
            refine bsplit_intro (fun c6 => ?_) (fun c6 => ?_)
            · try rw [add_mk]
              refine H26.set (i := 4) rfl (by show 1 < 5; decide) ?_; clear H26; intro w27 H27
              refine ⟨_, _, _, _, _, _, _, H27.cells (i := 4) rfl, ?_⟩
              refine H27.store (i := 2) rfl (by rfl) (by rfl) ?_; clear H27; intro w28 H28
              refine ⟨_, _, _, _, _, _, _, H28.cells (i := 2) rfl, ?_⟩
              exact fin H28
            · refine kLet_in ?_
              refine bsplit_dec (fun c5 => ?_) (fun c5 => ?_)
              · try rw [add_mk]
                refine H26.set (i := 4) rfl (by show 1 < 5; decide) ?_; clear H26; intro w29 H29
                refine ⟨_, _, _, _, _, _, _, H29.cells (i := 4) rfl, ?_⟩
                refine H29.store (i := 2) rfl (by rfl) (by rfl) ?_; clear H29; intro w30 H30
                refine ⟨_, _, _, _, _, _, _, H30.cells (i := 2) rfl, ?_⟩
                exact fin H30
              · refine kLet_in ?_
                refine bsplit_dec (fun c4 => ?_) (fun c4 => ?_)
                · try rw [add_mk]
                  refine H26.set (i := 4) rfl (by show 1 < 5; decide) ?_; clear H26; intro w31 H31
                  refine ⟨_, _, _, _, _, _, _, H31.cells (i := 4) rfl, ?_⟩
                  refine H31.store (i := 2) rfl (by rfl) (by rfl) ?_; clear H31; intro w32 H32
                  refine ⟨_, _, _, _, _, _, _, H32.cells (i := 2) rfl, ?_⟩
                  exact fin H32
                · refine ⟨_, _, _, _, _, _, _, H26.cells (i := 4) rfl, ?_⟩
                  refine H26.store (i := 2) rfl (by rfl) (by rfl) ?_; clear H26; intro w33 H33
                  refine ⟨_, _, _, _, _, _, _, H33.cells (i := 2) rfl, ?_⟩
                  exact fin H33
          · refine bsplit_dec (fun c3 => ?_) (fun c3 => ?_)
            · refine kLet_in ?_
              exact H25
            · exact H25
        · refine H15.drew ?_; clear H15; intro w16 H16
          refine ⟨fun _ => False, ?_⟩
          refine ⟨⟨by omega, by omega⟩, ?_⟩
          refine ⟨⟨by omega, by omega⟩, ?_⟩
          refine ⟨?_, ?_, trivial⟩
          · refine dNext H16 (i := 0) rfl hts hp6 (by omega) fun v p7 w17 _ _ hp7 H17 => ?_
            refine ⟨kNo, ?_⟩
            refine ⟨?_, ?_, trivial⟩
            · refine ⟨kNo, ?_⟩
              refine H17.allocB ?_; intro b2 w18 hb18 H18
              refine ⟨kNo, ?_⟩
              refine H18.store (i := 4) rfl (by rfl) (by rfl) ?_; intro w19 H19
              exact ⟨b2, p7, v, rfl, hp7, H19⟩
            · refine H17.allocB ?_; intro b3 w20 hb20 H20
              refine ⟨kNo, ?_⟩
              refine ⟨kNo, ?_⟩
              refine H20.store (i := 4) rfl (by rfl) (by rfl) ?_; intro w21 H21
              exact ⟨b3, p7, v, rfl, hp7, H21⟩
          · refine H16.allocB ?_; intro b4 w22 hb22 H22
            refine ⟨kNo, ?_⟩
            refine dNext H22 (i := 0) rfl hts hp6 (by omega) fun v p7 w23 _ _ hp7 H23 => ?_
            refine ⟨kNo, ?_⟩
            refine ⟨kNo, ?_⟩
            refine H23.store (i := 4) rfl (by rfl) (by rfl) ?_; intro w24 H24
            exact ⟨b4, p7, v, rfl, hp7, H24⟩
      · refine made_One_ct H13 (i := 0) rfl hts hp5 (by omega) fun v3 p6 w14 _ hp6 H14 => ?_
        refine bsplit_intro (fun c2 => ?_) (fun c2 => ?_)
        · exact ⟨by omega, p6, hp6, H14⟩
        · exact ⟨by omega, p6, hp6, H14⟩
    · refine made_One_ct H8 (i := 0) rfl hts hp2 (by omega) fun v3 p3 w9 _ hp3 H9 => ?_
      have hcap := H9.capI (i := 3) rfl
      rw [fillB_len] at hcap
      refine bsplit_intro (fun c1 => ?_) (fun c1 => ?_)
      · refine kTmod (by omega) ?_
        refine kW_i64 (by omega) ?_
        obtain ⟨n2, hn2⟩ : ∃ n : Nat, (3 : Int) + sn % 11 = n := natOf (by omega)
        rw [hn2]
        refine (made_Filled_ct (n := n2) (seed := 1) (by omega) (by omega)).mono ?_
        rintro _ w10 ⟨ua2, uc2, rfl, K10⟩; have H10 := H9.callR K10; clear H9 K10
        have hcap2 := H10.capI (i := 4) rfl
        rw [fillB_len] at hcap2
        refine ⟨_, _, _, rfl, ?_⟩
        exact ⟨fillB 1 n2, p3, (fillB_len _ _).symm, by rw [fillB_len]; omega, by rw [fillB_len]; exact hcap2, fillB_bytes _ _, hp3, St.skip (X := [_, _, _]) H10⟩
      · exact ⟨fillB sn n, p3, (fillB_len _ _).symm, by rw [fillB_len]; omega, by rw [fillB_len]; exact hcap, fillB_bytes _ _, hp3, H9⟩
  · refine made_One_ct H3 (i := 0) rfl hts hp1 (by omega) fun v1 p2 w4 _ hp2 H4 => ?_
    refine bsplit_intro (fun c => ?_) (fun c => ?_)
    · refine H4.ld (i := 1) rfl rfl ?_
      refine kW_i64 (by omega) ?_
      refine kW_u64 (by omega) ?_
      refine ⟨by omega, ?_⟩
      refine kShl1 (by omega) ?_
      refine kW_i64 (by omega) ?_
      refine dNext H4 (i := 0) rfl hts hp2 (by omega) fun k2 p3 w5 _ hk2 hp3 H5 => ?_
      have hk2 := hk2 (by omega)
      refine kW_i64 (by omega) ?_
      exact ⟨by omega, p3, hp3, H5⟩
    · exact ⟨by omega, p2, hp2, H4⟩
end
end Go.Proofs.YthceaojjeokclaaGreat
namespace Go.Proofs.YthceaojjeokclaaGreat
open Go.Sx Go.RowKit
set_option maxRecDepth 100000
inductive SameSort : Value → Value → Prop
  | int (x y : Int) : SameSort (.int .i64 x) (.int .i64 y)
  | bool (x y : Bool) : SameSort (.bool x) (.bool y)
theorem trunc (A : Nat → Prop) (w : World) : ∃ w1 : World, (∀ b, A b → w1.heap[b]? = w.heap[b]?) ∧ ∀ (p : Addr) (v : Value), w1.cell? p = some v → A p.block := by
  classical
  refine ⟨{ w with heap := w.heap.mapIdx fun b o => if A b then o else .cells #[] 0 }, fun b hb => ?_, fun p v hv => ?_⟩
  · show (w.heap.mapIdx _)[b]? = _
    rw [Array.getElem?_mapIdx]
    cases w.heap[b]? with
    | none => rfl
    | some o => show some (if A b then o else _) = some o; rw [if_pos hb]
  · by_cases hb : A p.block
    · exact hb
    · exfalso
      unfold World.cell? at hv
      have e : ({ w with heap := w.heap.mapIdx fun b o => if A b then o else .cells #[] 0 } : World).heap[p.block]? = w.heap[p.block]?.map fun _ => Obj.cells #[] 0 := by
        show (w.heap.mapIdx _)[p.block]? = _
        rw [Array.getElem?_mapIdx]
        cases w.heap[p.block]? with
        | none => rfl
        | some o => show some (if A p.block then o else _) = some _; rw [if_neg hb]
      rw [e] at hv
      cases hq : w.heap[p.block]? with
      | none => rw [hq] at hv; cases hv
      | some o =>
        rw [hq] at hv
        simp at hv
section
variable {w : World} {q : Addr} {v v' : Value}
theorem poke_cell (hq : w.cell? q = some v) {p : Addr} {u : Value} (h : w.cell? p = some u) : (w.setCell q v').cell? p = some u ∨ (u = v ∧ (w.setCell q v').cell? p = some v') := by
  by_cases e : q = p
  · subst e
    rw [hq] at h
    exact .inr ⟨(Option.some.inj h).symm, World.cell?_setCell_same _ _ _ hq⟩
  · exact .inl ((World.cell?_setCell_other _ _ _ _ e).trans h)
theorem poke_int (hv : SameSort v v') (hq : w.cell? q = some v) {p : Addr} {n : Int} (h : w.cell? p = some (.int .i64 n)) : ∃ n', (w.setCell q v').cell? p = some (.int .i64 n') := by
  rcases poke_cell (v' := v') hq h with h | ⟨e, h⟩
  · exact ⟨n, h⟩
  · cases hv with
    | int x y => exact ⟨y, h⟩
    | bool x y => cases e
theorem poke_bool (hv : SameSort v v') (hq : w.cell? q = some v) {p : Addr} {n : Bool} (h : w.cell? p = some (.bool n)) : ∃ n', (w.setCell q v').cell? p = some (.bool n') := by
  rcases poke_cell (v' := v') hq h with h | ⟨e, h⟩
  · exact ⟨n, h⟩
  · cases hv with
    | int x y => cases e
    | bool x y => exact ⟨y, h⟩
theorem poke_same (hv : SameSort v v') (hq : w.cell? q = some v) {p : Addr} {u : Value} (h : w.cell? p = some u) (hu : ¬ SameSort u u) : (w.setCell q v').cell? p = some u := by
  rcases poke_cell (v' := v') hq h with h | ⟨e, _⟩
  · exact h
  · subst e
    cases hv with
    | int x y => exact absurd (.int x x) hu
    | bool x y => exact absurd (.bool x x) hu
theorem poke_u8 (hv : SameSort v v') (hq : w.cell? q = some v) {a : Option Addr} {xs : List Int} (h : SlR (IntC .u8) 1 w a xs) : SlR (IntC .u8) 1 (w.setCell q v') a xs :=
  h.keep fun _ _ hc => poke_same hv hq hc fun h => by cases h
theorem poke_ints (hv : SameSort v v') (hq : w.cell? q = some v) {a : Option Addr} {xs : List Int} (h : SlR (IntC .i64) 1 w a xs) : ∃ ys : List Int, ys.length = xs.length ∧ SlR (IntC .i64) 1 (w.setCell q v') a ys := by
  rcases h with rfl | ⟨b, rfl, hb⟩
  · exact ⟨[], rfl, .inl rfl⟩
  · obtain ⟨L, hL, hq⟩ := choose_list (Q := fun i (x : Int) => IntC .i64 (w.setCell q v') (b.add (i * 1)) x) xs.length fun i hi => poke_int hv hq (hb i hi)
    exact ⟨L, hL, .inr ⟨b, rfl, fun i hi => hq i hi⟩⟩
theorem poke_ranges (hv : SameSort v v') (hq : w.cell? q = some v) {a : Option Addr} {xs : List Rg} (h : SlR (CE encR) 3 w a xs) : ∃ ys : List Rg, ys.length = xs.length ∧ SlR (CE encR) 3 (w.setCell q v') a ys := by
  rcases h with rfl | ⟨b, rfl, hb⟩
  · exact ⟨[], rfl, .inl rfl⟩
  · obtain ⟨L, hL, hq⟩ := choose_list (Q := fun i (x : Rg) => CE encR (w.setCell q v') (b.add (i * 3)) x) xs.length fun i hi => by
      obtain ⟨h1, h2, h3, _⟩ := hb i hi
      obtain ⟨n1, h1⟩ := poke_int hv hq h1
      obtain ⟨n2, h2⟩ := poke_int hv hq h2
      obtain ⟨n3, h3⟩ := poke_int hv hq h3
      exact ⟨⟨n1, n2, n3⟩, h1, h2, h3, trivial⟩
    exact ⟨L, hL, .inr ⟨b, rfl, fun i hi => hq i hi⟩⟩
theorem poke_pa (hv : SameSort v v') (hq : w.cell? q = some v) {p : Addr} {x : Pa} (h : PaC w p x) : ∃ y : Pa, PaC (w.setCell q v') p y ∧ y.data = x.data ∧ y.come.length = x.come.length := by
  obtain ⟨a, c, a2, c2, ⟨h0, h1, h2, h3, h4, _⟩, hd, hco, hcap⟩ := h
  obtain ⟨n0, h0⟩ := poke_int hv hq h0
  obtain ⟨n1, h1⟩ := poke_bool hv hq h1
  obtain ⟨n2, h2⟩ := poke_int hv hq h2
  obtain ⟨co, hl, hco⟩ := poke_ranges hv hq hco
  have h3 := poke_same hv hq h3 fun h => by cases h
  have h4 := poke_same hv hq h4 fun h => by cases h
  exact ⟨⟨n0, n1, n2, x.data, co⟩, ⟨a, c, a2, c2, ⟨h0, h1, h2, h3, by rw [← hl] at h4; exact h4, trivial⟩, poke_u8 hv hq hd, hco, hcap⟩, rfl, hl⟩
theorem poke_paR (hv : SameSort v v') (hq : w.cell? q = some v) {a : Option Addr} {L : List Pa} (h : PaR w a L) (hg : GP L) : ∃ L' : List Pa, PaR (w.setCell q v') a L' ∧ L'.length = L.length ∧ GP L' := by
  rcases h with rfl | ⟨b, rfl, hb⟩
  · exact ⟨[], .inl rfl, rfl, gp_nil⟩
  · obtain ⟨L', hL, hq⟩ := choose_list (Q := fun i (y : Pa) => PaC (w.setCell q v') (b.add (i * 5)) y ∧ GPa y) L.length fun i hi => by
      obtain ⟨y, h1, h2, h3⟩ := poke_pa hv hq (hb i hi)
      have := hg.2 _ (List.getElem_mem hi)
      exact ⟨y, h1, by rw [h3]; exact this.1, by rw [h2]; exact this.2.1, by rw [h2]; exact this.2.2⟩
    refine ⟨L', .inr ⟨b, rfl, fun i hi => (hq i hi).1⟩, hL, by rw [hL]; exact hg.1, fun y hy => ?_⟩
    obtain ⟨i, hi, rfl⟩ := List.getElem_of_mem hy
    exact (hq i hi).2
end
section
variable {A0 : Nat → Prop} {M : List Nat} {A : Nat → Prop} {w0 w : World} {R : List Res} {P : World → Prop} {α : Type} {Q : α → World → Prop} {q : Addr} {v v' : Value}
theorem held_poke (h : Held A w P) (hA : A q.block) (hq : w.cell? q = some v) (mono : ∀ x w w', (∀ p u, w.cell? p = some u → w'.cell? p = some u) → Q x w → Q x w')
    (step : ∀ w1 : World, P w1 → w1.cell? q = some v → ∃ x, Q x (w1.setCell q v')) : ∃ x, Held A (w.setCell q v') (Q x) := by
  obtain ⟨w1, h1, h2⟩ := trunc A w
  have hc : w1.cell? q = some v := (World.cell?_of_block (w := w) (h1 _ hA)).trans hq
  obtain ⟨x, hx⟩ := step w1 (h.out w1 h1) hc
  refine ⟨x, fun b hb => by rw [(But.setCell w q v').size]; exact h.lt b hb, fun w' hw => mono x _ _ (fun p u hp => ?_) hx⟩
  have hAp : A p.block := by
    by_cases e : p.block = q.block
    · rw [e]; exact hA
    · exact h2 p u (((But.setCell w1 q v').cell e).symm.trans hp)
  refine (World.cell?_of_block (w := w1.setCell q v') ?_).trans hp
  rw [hw _ hAp]
  show (w.heap.modify _ _)[p.block]? = (w1.heap.modify _ _)[p.block]?
  rw [Array.getElem?_modify, Array.getElem?_modify, h1 _ hAp]
theorem stPoke (H : St A0 M w0 w R P) (hq : w.cell? q = some v) (hfr : w0.heap.size ≤ q.block) (hA : ∀ A, Held A w P → A q.block) (mono : ∀ x w w', (∀ p u, w.cell? p = some u → w'.cell? p = some u) → Q x w → Q x w')
    (step : ∀ w1 : World, P w1 → w1.cell? q = some v → ∃ x, Q x (w1.setCell q v')) : ∃ x, St A0 M w0 (w.setCell q v') R (Q x) := by
  obtain ⟨A, hA', h1, h2⟩ := H.held
  obtain ⟨x, hx⟩ := held_poke hA' (hA A hA') hq mono step
  have hb := But.setCell w q v'
  have hne : ∀ (i : Nat) (r : Res), R[i]? = some r → ∀ b, r.at = some b → b ≠ q.block := fun i r hi b hb e => h2 i r hi b hb (by rw [e]; exact hA A hA')
  exact ⟨x, ⟨hb.os.trans H.fr.os, hb.tape.trans H.fr.tape, hb.output.trans H.fr.output, by rw [hb.size]; exact H.fr.size, fun k hk hm => (hb.block k (by omega)).trans (H.fr.block k hk hm)⟩,
    fun i r hi => (H.ok i r hi).keep fun b hb' => hb.block b (hne i r hi b hb'), H.mine, H.apart, A, hx, h1, h2⟩
theorem held_at {a : Option Addr} {L : List Pa} {b : Addr} (h : Held A w P) (hp : ∀ w, P w → PaR w a L) (hL : L ≠ []) (ha : a = some b) : A b.block := by
  obtain ⟨w1, h1, h2⟩ := trunc A w
  rcases hp _ (h.out w1 h1) with h0 | ⟨b', e, hb⟩
  · exact absurd h0 hL
  · rw [ha] at e
    cases e
    have hl : 0 < L.length := by
      cases L with
      | nil => exact absurd rfl hL
      | cons x l => simp
    obtain ⟨_, _, _, _, ⟨hc, _⟩, _⟩ := hb 0 hl
    have := h2 _ _ hc
    simpa [add_block] using this
end
abbrev SafeR (n : Nat) (xa : Option Addr) (x : Rc) : Prop := x.parts ≠ [] → ∀ b, xa = some b → n ≤ b.block
theorem safe_of {n : Nat} {w1 w2 : World} {R' : List Res} {Q : World → Prop} {x : Rc} {a : Option Addr} (K : St (fun _ => False) [] w1 w2 R' Q) (hQ : ∀ w, Q w → PaR w a x.parts) (hn : n ≤ w1.heap.size) : SafeR n a x := fun hne b hb => by
  obtain ⟨A, hA, h1, _⟩ := K.held
  have := h1 _ (held_at hA hQ hne hb)
  rcases this with h | h
  · exact h.elim
  · omega
theorem RetR.readS {w w' : World} {x : Rc} {E : Int} {e : Ending} (h : RetR w x E e w') : ∃ a c, e = .returned (.tuple #[aggRc x a c, .int .i64 E]) ∧ Fresh w w' fun w => PaS w a x.parts := by
  obtain ⟨a, c, L, hL, he, H⟩ := h
  refine ⟨a, c, he, ?_⟩
  rw [← hL]
  exact (readFS (X := []) H fun _ h => h).fin.imp fun _ h => h.1
theorem RetRB.readS {w w' : World} {x : Rc} {bs : List Int} {E : Int} {e : Ending} (h : RetRB w x bs E e w') : ∃ a c ba bc, bs.length ≤ bc ∧ e = .returned (.tuple #[aggRc x a c, .slice ba bs.length bc, .int .i64 E]) ∧ Fresh w w' fun w => PaS w a x.parts ∧ SlR (IntC .u8) 1 w ba bs := by
  obtain ⟨a, c, L, ba, bc, hL, hbc, he, H⟩ := h
  refine ⟨a, c, ba, bc, hbc, he, ?_⟩
  rw [← hL]
  exact (readFS (X := []) H fun _ h => h.1).fin.imp fun _ h => ⟨h.1, h.2.2⟩
end Go.Proofs.YthceaojjeokclaaGreat
namespace Go.Proofs.YthceaojjeokclaaGreat
open Go.Sx Go.RowKit
set_option maxRecDepth 100000
section
variable {A0 : Nat → Prop} {M : List Nat} {w0 w : World} {R : List Res} {P : World → Prop} {i g : Nat} {a : Option Addr} {c : Nat} {ts : List Int} {p : Nat} {s : Rc} {sa : Option Addr} {sc : Nat}
theorem dPiece (H : St A0 M w0 w R P) (hi : R[i]? = some (dice g a c ts p)) (hts : Rolls a ts P) (hp : p ≤ ts.length) (hb : bitsOk s.lk.bits) (hf : snOk s.lk.bits s.first) :
    Calls Tryz.prog N_law21_piece #[(.pointer (some ⟨g, 0, none⟩)), aggRc s sa sc] w fun e w' => ∃ (q : Pc) (qa : Option Addr) (qc : Nat) (ua : Option Addr) (uc : Nat) (u : List Int) (p' : Nat), e = .returned (aggPc q qa qc) ∧ q.data.length ≤ 30 ∧ Bytes q.data ∧ (∀ w, SlR (IntC .u8) 1 w ua u → SlR (IntC .u8) 1 w qa q.data) ∧ p' ≤ ts.length ∧
      St A0 M w0 w' (R.set i (dice g a c ts p') ++ [.ints Ty_uint8 .u8 ua uc u]) P := by
  obtain ⟨A, hA, hn', hr, hc⟩ := H.callM hi
  refine (law21_piece_ct hb hf hA hts hr hn' hp).mono ?_
  rintro _ w2 ⟨q, qa, qc, ua, uc, u, p', rfl, h1, h2, h3, h4, S⟩
  exact ⟨q, qa, qc, ua, uc, u, p', rfl, h1, h2, h3, h4, (hc S).imp fun _ h => h.2⟩
end
def OkR (x : Rc) : Prop := x.okB = true ∧ GP x.parts
theorem OkR.bits {x : Rc} (h : OkR x) : bitsOk x.lk.bits := (rc_fit h.1).2.1.1
theorem OkR.first {x : Rc} (h : OkR x) : snOk x.lk.bits x.first := (rc_fit h.1).2.2.1
theorem OkR.tick {x : Rc} (h : OkR x) : OkR (tickRc x).1 := ⟨tick_ok h.1, tick_gp h.2⟩
theorem OkR.rep {x : Rc} {size : Int} (h : OkR x) (h0 : (repR x size).2.2 = 0) : OkR (repR x size).1 := ⟨(rep_ok h.1 h0).2, (rep_gp h.2).1⟩
theorem OkR.recv {x : Rc} {bs : List Int} (h : OkR x) (hB : Bytes bs) : OkR (recS x bs).1 := ⟨rec_ok h.1 fun _ _ => decP_good, (rec_gp h.2 hB).1⟩
abbrev rowsT (g : Nat) (a : Option Addr) (c : Nat) (ts : List Int) (p b b1 : Nat) (x : Rc) (xa : Option Addr) (xc : Nat) (T : List Res) : List Res :=
  dice g a c ts p :: .blk b Ty_api_Receiver (encRc .zero none 0) :: .blk b1 Ty_api_Receiver (encRc x xa xc) :: T
section
variable {g : Nat} {a : Option Addr} {c : Nat} {ts : List Int} {p : Nat} {w : World} {A : Nat → Prop} {P : World → Prop}
theorem law21_random_soft (hP : Held A w P) (hts : Rolls a ts P) (hB : (dice g a c ts p).ok w) (hn : ∀ b, (dice g a c ts p).at = some b → ¬ A b) (hp : p ≤ ts.length) :
    Calls Tryz.prog N_law21_random #[(.pointer (some ⟨g, 0, none⟩))] w fun e w' => ∃ (x : Rc) (xa : Option Addr) (xc p' : Nat), e = .returned (aggRc x xa xc) ∧ OkR x ∧ SafeR w.heap.size xa x ∧ p' ≤ ts.length ∧ St A [g] w w' [dice g a c ts p'] fun w => PaS w xa x.parts ∧ P w := by
  apply F_law21_random_ok
  unfold F_law21_random
  have H : St A [g] w w [dice g a c ts p] P := St.startM hP hB hn
  refine H.alloc ?_; clear H; intro b w1 H1
  refine (dLink H1 (i := 0) rfl hts hp (K := fun l w' => lkOk l ∧ ∃ p', p' ≤ ts.length ∧ St A [g] w w' [dice g a c ts p', .blk b Ty_api_Receiver (encRc .zero none 0)] P) fun l p' w2 _ hl hp' H2 => ⟨hl, p', hp', H2⟩).mono ?_
  rintro _ w2 ⟨l, rfl, hl, p1, hp1, H2⟩
  have hb := hl.1
  have hb' := hb
  obtain ⟨hb1, hb2⟩ := hb'
  have hpw := pow_bits hb
  refine ⟨_, _, _, _, _, _, rfl, ?_⟩
  have C := ref21_New_ct (l := l) (w := w2)
  rw [newRc, if_pos hl] at C
  refine C.mono ?_; clear C
  rintro _ w3 ⟨rfl, -, hb3⟩; have H3 := H2.pass hb3; clear H2
  refine ⟨_, _, _, _, _, _, _, _, _, _, _, _, _, _, _, _, _, rfl, ?_⟩
  refine H3.alloc ?_; clear H3; intro b1 w4 H4
  refine H4.store (i := 2) rfl (by rfl) (by rfl) ?_; clear H4; intro w5 H5
  replace H5 : St A [g] w w5 (rowsT g a c ts p1 b b1 ⟨l, 0, 0, 0, -1, 0, 0, false, []⟩ none 0 []) P := H5
  refine H5.ld (i := 2) (x := l.bits) rfl rfl ?_
  refine kW_u64 (by omega) ?_
  refine ⟨by omega, ?_⟩
  refine kShl1 (by omega) ?_
  refine dNext H5 (i := 0) rfl hts hp1 (by omega) fun f p2 w6 _ hf hp2 H6 => ?_
  have hf := hf (by omega)
  refine H6.set (i := 2) rfl (by show 6 < 14; decide) ?_; clear H6; intro w7 H7
  refine H7.ld (i := 2) rfl rfl ?_
  refine H7.ld (i := 2) rfl rfl ?_
  refine H7.set (i := 2) rfl (by show 7 < 14; decide) ?_; clear H7; intro w8 H8
  refine H8.set (i := 2) rfl (by show 8 < 14; decide) ?_; clear H8; intro w9 H9
  replace H9 : St A [g] w w9 (rowsT g a c ts p2 b b1 ⟨l, f, f, f, -1, 0, 0, false, []⟩ none 0 []) P := H9
  refine dNext H9 (i := 0) rfl hts hp2 (by omega) fun n0 p3 w10 _ hn0 hp3 H10 => ?_
  have hn0 := hn0 (by omega)
  replace H10 : St A [g] w w10 (rowsT g a c ts p3 b b1 ⟨l, f, f, f, -1, 0, 0, false, []⟩ none 0 []) P := H10
  refine ⟨fun n => (n.toNat, fun w11 => n ≤ 40 ∧ ∃ (x : Rc) (xa : Option Addr) (xc p' : Nat), OkR x ∧ SafeR w.heap.size xa x ∧ p' ≤ ts.length ∧ St A [g] w w11 (rowsT g a c ts p' b b1 x xa xc []) fun w => PaS w xa x.parts ∧ P w), ⟨by omega, _, none, 0, p3, ⟨new_ok hl hf, gp_nil⟩, fun hne => absurd rfl hne, hp3, H10.imp fun w h => ⟨⟨.nil, Soft.none_ w⟩, h⟩⟩, ?_⟩
  clear H10
  rintro _ n w11 ⟨hn40, x, xa, xc, p4, hx, hsf, hp4, H11⟩
  have hts2 : Rolls a ts fun w => PaS w xa x.parts ∧ P w := hts.and _
  refine bsplit_dec (fun c5 => ?_) (fun c5 => ?_)
  · refine ⟨fun w35 => ∃ (x : Rc) (xa : Option Addr) (xc p' : Nat), OkR x ∧ SafeR w.heap.size xa x ∧ p' ≤ ts.length ∧ St A [g] w w35 (rowsT g a c ts p' b b1 x xa xc []) fun w => PaS w xa x.parts ∧ P w, ?_, ?_⟩
    · rintro _ w35 ⟨x2, xa2, xc2, p5, hx2, hsf2, hp5, H35⟩
      refine kW_i64 (by omega) ?_
      exact ⟨⟨by omega, x2, xa2, xc2, p5, hx2, hsf2, hp5, H35⟩, by dsimp only; omega⟩
    · refine dNext H11 (i := 0) rfl hts2 hp4 (by omega) fun k p5 w12 _ _ hp5 H12 => ?_
      replace H12 : St A [g] w w12 (rowsT g a c ts p5 b b1 x xa xc []) fun w => PaS w xa x.parts ∧ P w := H12
      refine kLet_in ?_
      refine bsplit_dec (fun c4 => ?_) (fun c4 => ?_)
      · refine ⟨_, _, _, _, _, _, _, _, _, _, _, _, _, _, _, _, H12.cells (i := 2) rfl, ?_⟩
        refine (ref21_Tick_ct (s := x) H12.get.1.1 hx.2.sm).mono ?_
        rintro _ w13 hh; obtain ⟨a13, c13, rfl, K⟩ := hh.readS; have hs13 := safe_of K (fun _ h => h.1) H12.fr.size; have H13 := H12.callF K; clear hh K H12
        rw [List.append_nil] at H13
        refine ⟨_, _, _, _, _, _, _, _, _, _, _, _, _, _, _, _, _, rfl, ?_⟩
        refine H13.store (i := 2) rfl (by rfl) (by rfl) ?_; clear H13; intro w14 H14
        exact ⟨_, a13, c13, p5, hx.tick, hs13, hp5, H14.imp fun _ h => ⟨h.1, h.2.2⟩⟩
      · refine kLet_in ?_
        refine bsplit_dec (fun c3 => ?_) (fun c3 => ?_)
        · refine H12.drew ?_; clear H12; intro w15 H15
          refine ⟨fun y => y = b1, ?_⟩
          refine ⟨rfl, ?_⟩
          refine ⟨_, _, _, _, _, _, _, _, _, _, _, _, _, _, _, _, H15.cells (i := 2) rfl, ?_⟩
          refine ⟨?_, ?_, trivial⟩
          · refine dNext H15 (i := 0) rfl hts2 hp5 (by omega) fun z p6 w16 _ hz hp6 H16 => ?_
            have hz := hz (by omega)
            replace H16 : St A [g] w w16 (rowsT g a c ts p6 b b1 x xa xc []) fun w => PaS w xa x.parts ∧ P w := H16
            refine ⟨keepB1 (H15.ok 2 _ rfl) (H16.ok 2 _ rfl), ?_⟩
            refine kW_i64 (by omega) ?_
            refine ⟨?_, ?_, trivial⟩
            · refine (ref21_Report_ct (s := x) (size := 3 + z) H16.get.1.1 hx.2.sm).mono ?_
              rintro _ w17 hh; obtain ⟨a17, c17, ba17, bc17, _, rfl, K⟩ := hh.readS; have hs17 := safe_of K (fun _ h => h.1.1) H16.fr.size; have H17 := H16.callF K; clear hh K
              rw [List.append_nil] at H17
              refine ⟨_, _, _, _, _, _, _, _, _, _, _, _, _, _, _, _, _, _, _, _, rfl, ?_⟩
              skip
              refine ⟨keepB1 (H15.ok 2 _ rfl) (H17.ok 2 _ rfl), ?_⟩
              refine H17.allocB ?_; intro b2 w18 hb18 H18
              refine ⟨keepB1 (H15.ok 2 _ rfl) (H18.ok 2 _ rfl), ?_⟩
              refine H18.store (i := 3) rfl (by rfl) (by rfl) ?_; intro w19 H19
              refine bsplit_dec (fun c0 => ?_) (fun c0 => ?_)
              · refine ⟨_, _, _, _, _, _, _, _, _, _, _, _, _, _, _, _, H19.cells (i := 3) rfl, ?_⟩
                refine H19.store (i := 2) rfl (by rfl) (by rfl) ?_; clear H19; intro w20 H20
                exact ⟨_, a17, c17, p6, hx.rep c0, hs17, hp6, (St.dropLast (R := [_, _, _]) H20).imp fun _ h => ⟨h.1.1, h.2.2⟩⟩
              · exact ⟨x, xa, xc, p6, hx, hsf, hp6, (St.dropLast (R := [_, _, _]) H19).imp fun _ h => h.2⟩
            · refine H16.allocB ?_; intro b3 w21 hb21 H21
              refine ⟨keepB1 (H15.ok 2 _ rfl) (H21.ok 2 _ rfl), ?_⟩
              refine (ref21_Report_ct (s := x) (size := 3 + z) H21.get.1.1 hx.2.sm).mono ?_
              rintro _ w22 hh; obtain ⟨a22, c22, ba22, bc22, _, rfl, K⟩ := hh.readS; have hs22 := safe_of K (fun _ h => h.1.1) H21.fr.size; have H22 := H21.callF K; clear hh K
              rw [List.append_nil] at H22
              refine ⟨_, _, _, _, _, _, _, _, _, _, _, _, _, _, _, _, _, _, _, _, rfl, ?_⟩
              skip
              refine ⟨keepB1 (H15.ok 2 _ rfl) (H22.ok 2 _ rfl), ?_⟩
              refine H22.store (i := 3) rfl (by rfl) (by rfl) ?_; intro w23 H23
              refine bsplit_dec (fun c0 => ?_) (fun c0 => ?_)
              · refine ⟨_, _, _, _, _, _, _, _, _, _, _, _, _, _, _, _, H23.cells (i := 3) rfl, ?_⟩
                refine H23.store (i := 2) rfl (by rfl) (by rfl) ?_; clear H23; intro w24 H24
                exact ⟨_, a22, c22, p6, hx.rep c0, hs22, hp6, (St.dropLast (R := [_, _, _]) H24).imp fun _ h => ⟨h.1.1, h.2.2⟩⟩
              · exact ⟨x, xa, xc, p6, hx, hsf, hp6, (St.dropLast (R := [_, _, _]) H23).imp fun _ h => h.2⟩
          · refine H15.allocB ?_; intro b4 w25 hb25 H25
            refine ⟨keepB1 (H15.ok 2 _ rfl) (H25.ok 2 _ rfl), ?_⟩
            refine dNext H25 (i := 0) rfl hts2 hp5 (by omega) fun z p6 w26 _ hz hp6 H26 => ?_
            have hz := hz (by omega)
            refine ⟨keepB1 (H15.ok 2 _ rfl) (H26.ok 2 _ rfl), ?_⟩
            refine kW_i64 (by omega) ?_
            refine (ref21_Report_ct (s := x) (size := 3 + z) H26.get.1.1 hx.2.sm).mono ?_
            rintro _ w27 hh; obtain ⟨a27, c27, ba27, bc27, _, rfl, K⟩ := hh.readS; have hs27 := safe_of K (fun _ h => h.1.1) H26.fr.size; have H27 := H26.callF K; clear hh K
            rw [List.append_nil] at H27
            refine ⟨_, _, _, _, _, _, _, _, _, _, _, _, _, _, _, _, _, _, _, _, rfl, ?_⟩
            skip
            refine ⟨keepB1 (H15.ok 2 _ rfl) (H27.ok 2 _ rfl), ?_⟩
            refine H27.store (i := 3) rfl (by rfl) (by rfl) ?_; intro w28 H28
            refine bsplit_dec (fun c0 => ?_) (fun c0 => ?_)
            · refine ⟨_, _, _, _, _, _, _, _, _, _, _, _, _, _, _, _, H28.cells (i := 3) rfl, ?_⟩
              refine H28.store (i := 2) rfl (by rfl) (by rfl) ?_; clear H28; intro w29 H29
              exact ⟨_, a27, c27, p6, hx.rep c0, hs27, hp6, (St.dropLast (R := [_, _, _]) H29).imp fun _ h => ⟨h.1.1, h.2.2⟩⟩
            · exact ⟨x, xa, xc, p6, hx, hsf, hp6, (St.dropLast (R := [_, _, _]) H28).imp fun _ h => h.2⟩
        · refine H12.drew ?_; clear H12; intro w30 H30
          refine ⟨fun y => y = b1, ?_⟩
          refine ⟨rfl, ?_⟩
          refine H30.ld (i := 2) rfl rfl ?_
          refine ⟨_, _, _, _, _, _, _, _, _, _, _, _, _, _, _, _, H30.cells (i := 2) rfl, ?_⟩
          refine (dPiece (s := x) (sa := xa) (sc := xc) H30 (i := 0) rfl hts2 hp5 hx.bits hx.first).mono ?_
          rintro _ w31 ⟨q, qa, qc, ua, uc, u, p6, rfl, hql, hqb, hsl, hp6, H31⟩
          replace H31 : St A [g] w w31 (rowsT g a c ts p6 b b1 x xa xc [.ints Ty_uint8 .u8 ua uc u]) fun w => PaS w xa x.parts ∧ P w := H31
          refine ⟨_, _, _, _, _, _, _, rfl, ?_⟩
          refine ⟨keepB1 (H30.ok 2 _ rfl) (H31.ok 2 _ rfl), ?_⟩
          refine (ref18_Encode_ct (d := q.data) (hsl _ (H31.slI (i := 3) rfl)) (by omega)).mono ?_
          rintro _ w32 ⟨ea, ec, hec, rfl, K⟩; have H32 := H31.callF K; clear K
          rw [List.append_nil] at H32
          have hel := encP_len x.lk.bits ⟨q.sn, q.part, q.poll, q.off, q.data⟩
          dsimp only at hel
          refine ⟨_, _, _, _, rfl, ?_⟩
          refine ⟨_, _, _, _, _, _, _, _, _, _, _, _, _, _, _, _, H32.cells (i := 2) rfl, ?_⟩
          refine (ref21_Receive_soft (s := x) H32.get.2.1.1 hx.2.sm H32.get.1 (encP_bytes hqb) (by omega) hec).mono ?_
          rintro _ w33 ⟨a33, c33, ba33, bc33, rfl, _, K⟩; have hs33 := safe_of K (fun _ h => h.1.1) H32.fr.size; have H33 := H32.callF K; clear K H32
          rw [List.append_nil] at H33
          refine ⟨_, _, _, _, _, _, _, _, _, _, _, _, _, _, _, _, _, _, _, _, rfl, ?_⟩
          refine H33.store (i := 2) rfl (by rfl) (by rfl) ?_; clear H33; intro w34 H34
          exact ⟨_, a33, c33, p6, hx.recv (encP_bytes hqb), hs33, hp6, (St.dropLast (R := [_, _, _]) H34).imp fun _ h => ⟨h.1.1, h.2.2.2⟩⟩
  · refine ⟨_, _, _, _, _, _, _, _, _, _, _, _, _, _, _, _, H11.cells (i := 2) rfl, ?_⟩
    refine H11.store (i := 1) rfl (by rfl) (by rfl) ?_; clear H11; intro w36 H36
    refine ⟨_, _, _, _, _, _, _, _, _, _, _, _, _, _, _, _, H36.cells (i := 1) rfl, ?_⟩
    exact ⟨x, xa, xc, p4, rfl, hx, hsf, hp4, St.dropLast (R := [_]) (St.dropLast (R := [_, _]) H36)⟩
end
section
variable {A0 : Nat → Prop} {M : List Nat} {w0 w : World} {R : List Res} {P : World → Prop} {i g : Nat} {a : Option Addr} {c : Nat} {ts : List Int} {p : Nat}
theorem dRandomS (H : St A0 M w0 w R P) (hi : R[i]? = some (dice g a c ts p)) (hts : Rolls a ts P) (hp : p ≤ ts.length) :
    Calls Tryz.prog N_law21_random #[(.pointer (some ⟨g, 0, none⟩))] w fun e w' => ∃ (x : Rc) (xa : Option Addr) (xc p' : Nat), e = .returned (aggRc x xa xc) ∧ OkR x ∧ SafeR w.heap.size xa x ∧ p' ≤ ts.length ∧ St A0 M w0 w' (R.set i (dice g a c ts p')) fun w => PaS w xa x.parts ∧ P w := by
  obtain ⟨A, hA, hn', hr, hc⟩ := H.callM hi
  refine (law21_random_soft hA hts hr hn' hp).mono ?_
  rintro _ w2 ⟨x, xa, xc, p', rfl, h1, hsf, h2, S⟩
  have := hc S
  rw [List.append_nil] at this
  exact ⟨x, xa, xc, p', rfl, h1, hsf, h2, this.imp fun _ h => h.1⟩
end
end Go.Proofs.YthceaojjeokclaaGreat
namespace Go.Proofs.YthceaojjeokclaaGreat
open Go.Sx Go.RowKit
set_option maxRecDepth 100000
abbrev MadeS (w : World) (g b : Nat) (ta : Option Addr) (tc n : Nat) (sa : Option Addr) (sc : Nat) (ba : Option Addr) (bs : List Int) (w' : World) : Prop :=
  ∃ (t : Rc) (ts : List Int) (p : Nat), GP t.parts ∧ ts.length = n ∧ p ≤ n ∧
    St (All w) [] w w' [dice g ta tc ts p, .blk b Ty_api_Receiver (encRc t sa sc)] (fun w => SlR (IntC .u8) 1 w ba bs ∧ PaR w sa t.parts ∧ SlR (IntC .i64) 1 w ta ts)
section
variable {w w5 : World} {g b : Nat} {ta sa ba : Option Addr} {tc sc p : Nat} {ts bs : List Int} {s : Rc}
theorem pokeR (H : St (All w) [] w w5 [dice g ta tc ts p, .blk b Ty_api_Receiver (encRc s sa sc)] (fun w => SlR (IntC .u8) 1 w ba bs ∧ PaS w sa s.parts ∧ SlR (IntC .i64) 1 w ta ts)) (hg : GP s.parts) (hsf : SafeR w.heap.size sa s) (hp : p ≤ ts.length)
    {b1 : Addr} (hsa : sa = some b1) (hne : s.parts ≠ []) {q : Addr} (hqb : q.block = b1.block) {v v' : Value} (hv : SameSort v v') (hc : w5.cell? q = some v) {F : World → Prop}
    (hF : ∀ w', MadeS w g b ta tc ts.length sa sc ba bs w' → F w') : kSet w5 q v' F := by
  refine ⟨⟨v, hc⟩, H.get.2.1.2 b1 q hsa hqb, hF _ ?_⟩
  have hblk : ∀ A, Held A w5 (fun w => SlR (IntC .u8) 1 w ba bs ∧ PaS w sa s.parts ∧ SlR (IntC .i64) 1 w ta ts) → A q.block := fun A hA => by
    rw [hqb]; exact held_at hA (fun _ h => h.2.1.1) hne hsa
  obtain ⟨x, K⟩ := stPoke (α := List Pa × List Int) (v' := v') (Q := fun x w => (x.1.length = s.parts.length ∧ GP x.1 ∧ x.2.length = ts.length) ∧ SlR (IntC .u8) 1 w ba bs ∧ PaR w sa x.1 ∧ SlR (IntC .i64) 1 w ta x.2) H hc
    (by rw [hqb]; exact hsf hne b1 hsa) hblk
    (fun x w1 w2 hk h => ⟨h.1, h.2.1.keep fun _ _ hc => hk _ _ hc, h.2.2.1.keep fun _ _ ⟨a, c, a2, c2, h1, h2, h3, h4⟩ => ⟨a, c, a2, c2, cellsAt_keep (fun p u hp _ => hk p u hp) h1, h2.keep fun _ _ hc => hk _ _ hc, h3.keep fun _ _ hc => cellsAt_keep (fun p u hp _ => hk p u hp) hc, h4⟩, h.2.2.2.keep fun _ _ hc => hk _ _ hc⟩)
    (fun w1 h hc1 => by
      obtain ⟨L', l1, l2, l3⟩ := poke_paR (v' := v') hv hc1 h.2.1.1 hg
      obtain ⟨ts', t1, t2⟩ := poke_ints (v' := v') hv hc1 h.2.2
      exact ⟨(L', ts'), ⟨l2, l3, t1⟩, poke_u8 hv hc1 h.1, l1, t2⟩)
  obtain ⟨⟨l2, l3, t1⟩, -⟩ := K.get
  refine ⟨{ s with parts := x.1 }, x.2, p, l3, t1, hp, ?_⟩
  have e1 : dice g ta tc x.2 p = dice g ta tc ts p := by unfold dice; rw [t1]
  have e2 : encRc { s with parts := x.1 } sa sc = encRc s sa sc := by unfold encRc; simp only [l2]
  rw [e1, e2]
  exact K.imp fun _ h => h.2
end
section
variable {ta : Option Addr} {tc : Nat} {ts : List Int} {w : World}
theorem law21_ReceiverMade_ct (hts : SlR (IntC .i64) 1 w ta ts) :
    Calls Tryz.prog N_law21_ReceiverMade #[(.slice ta ts.length tc)] w fun e w' => e = .returned (.bool true) ∧ Below w.heap.size w w' := by
  apply F_law21_ReceiverMade_ok
  unfold F_law21_ReceiverMade
  have H := (St.startA w).hold (slr_held hts)
  refine made_Light_ct.mono ?_
  rintro _ w1 ⟨rfl, hb1⟩; have H1 := H.pass hb1; clear H
  refine ⟨_, rfl, ?_⟩
  refine bsplit_nd (fun c13 => ?_) (fun c13 => ?_)
  · refine law21_awake_ct.mono ?_
    rintro _ w2 ⟨rfl, hb2⟩; have H2 := H1.pass hb2; clear H1
    refine ⟨_, rfl, ?_⟩
    exact ⟨rfl, H2.below⟩
  · refine made_Roll_ct.mono ?_
    rintro _ w3 ⟨g, rfl, K⟩; have H3 := H1.callR K; clear H1 K
    simp only [List.nil_append] at H3
    have hR0 : Rolls ta ts fun w => SlR (IntC .i64) 1 w ta ts ∧ True := ⟨fun _ h => h.1, by omega⟩
    refine ⟨_, rfl, ?_⟩
    have hsz := H3.fr.size
    refine (dRandomS H3 (i := 0) rfl hR0 (Nat.zero_le _)).mono ?_
    rintro _ w4 ⟨s, sa, sc, p1, rfl, hs, hsf, hp1, H4⟩; clear H3
    replace hsf : SafeR w.heap.size sa s := fun hne b hb => Nat.le_trans hsz (hsf hne b hb)
    replace H4 : St (All w) [] w w4 [dice g ta tc ts p1] (fun w => PaS w sa s.parts ∧ SlR (IntC .i64) 1 w ta ts) := H4.imp fun _ h => ⟨h.1, h.2.1⟩
    refine ⟨_, _, _, _, _, _, _, _, _, _, _, _, _, _, _, _, rfl, ?_⟩
    refine H4.alloc ?_; clear H4; intro b w5 H5
    refine H5.store (i := 1) rfl (by rfl) (by rfl) ?_; clear H5; intro w6 H6
    refine H6.drew ?_; clear H6; intro w7 H7
    refine ⟨fun y => y = b, ?_⟩
    refine ⟨rfl, ?_⟩
    refine H7.ld (i := 1) rfl rfl ?_
    refine ⟨_, _, _, _, _, _, _, _, _, _, _, _, _, _, _, _, H7.cells (i := 1) rfl, ?_⟩
    have hR1 : Rolls ta ts fun w => PaS w sa s.parts ∧ SlR (IntC .i64) 1 w ta ts := ⟨fun _ h => h.2, by omega⟩
    refine (dPiece (s := s) (sa := sa) (sc := sc) H7 (i := 0) rfl hR1 hp1 hs.bits hs.first).mono ?_
    rintro _ w8 ⟨q, qa, qc, ua, uc, u, p2, rfl, hql, hqb, hsl, hp2, H8⟩
    replace H8 : St (All w) [] w w8 [dice g ta tc ts p2, .blk b Ty_api_Receiver (encRc s sa sc), .ints Ty_uint8 .u8 ua uc u] (fun w => PaS w sa s.parts ∧ SlR (IntC .i64) 1 w ta ts) := H8
    refine ⟨_, _, _, _, _, _, _, rfl, ?_⟩
    refine ⟨keepB1 (H7.ok 1 _ rfl) (H8.ok 1 _ rfl), ?_⟩
    clear H7
    have C := ref18_Encode_ct (bits := s.lk.bits) (p_0 := q.sn) (p_1 := q.part) (p_2 := q.poll) (p_3 := q.off) (d := q.data) (p_4_c := qc) (hsl _ (H8.slI (i := 2) rfl)) (by omega)
    refine C.mono ?_; clear C
    have heb := encP_bytes (b := s.lk.bits) (p := ⟨q.sn, q.part, q.poll, q.off, q.data⟩) hqb
    have hel := encP_len s.lk.bits ⟨q.sn, q.part, q.poll, q.off, q.data⟩
    obtain ⟨ee, hee⟩ : ∃ ee, ee = encP s.lk.bits ⟨q.sn, q.part, q.poll, q.off, q.data⟩ := ⟨_, rfl⟩
    rw [← hee] at heb hel ⊢
    replace hel : ee.1.length ≤ 34 := by dsimp only at hel; omega
    rintro _ w9 ⟨ea, ec, hec, rfl, K⟩; have H9 := H8.callF K; clear K H8
    rw [List.append_nil] at H9
    refine ⟨_, _, _, _, rfl, ?_⟩
    replace H9 : St (All w) [] w w9 [dice g ta tc ts p2, .blk b Ty_api_Receiver (encRc s sa sc)] (fun w => SlR (IntC .u8) 1 w ea ee.1 ∧ PaS w sa s.parts ∧ SlR (IntC .i64) 1 w ta ts) := St.dropLast (R := [_, _]) H9
    refine ⟨fun b_a b_l b_c w12 => ∃ (bs : List Int) (p : Nat), b_l = bs.length ∧ Bytes bs ∧ bs.length ≤ 100 ∧ bs.length ≤ b_c ∧ p ≤ ts.length ∧ St (All w) [] w w12 [dice g ta tc ts p, .blk b Ty_api_Receiver (encRc s sa sc)] (fun w => SlR (IntC .u8) 1 w b_a bs ∧ PaS w sa s.parts ∧ SlR (IntC .i64) 1 w ta ts), ?_, ?_⟩
    · clear H9
      rintro _ ba _ bc w12 ⟨bs, p3, rfl, hbB, hbl, hbc, hp3, H12⟩
      have hR2 : Rolls ta ts fun w => SlR (IntC .u8) 1 w ba bs ∧ PaS w sa s.parts ∧ SlR (IntC .i64) 1 w ta ts := ⟨fun _ h => h.2.2, by omega⟩
      refine ⟨fun w40 => MadeS w g b ta tc ts.length sa sc ba bs w40, ?_, ?_⟩
      · clear H12
        rintro _ w40 ⟨t, ts', p, htg, htl, hp, H40⟩
        refine H40.drew ?_; clear H40; intro w41 H41
        refine ⟨fun y => y = b, ?_⟩
        refine law21_awake_ct.mono ?_
        rintro _ w42 ⟨rfl, hb42⟩; have H42 := H41.pass hb42
        refine ⟨_, rfl, ?_⟩
        refine ⟨keepB1 (H41.ok 1 _ rfl) (H42.ok 1 _ rfl), ?_⟩
        refine bsplit_intro (fun _ => ?_) (fun c => by cases c)
        refine ⟨rfl, ?_⟩
        refine ⟨_, _, _, _, _, _, _, _, _, _, _, _, _, _, _, _, H41.cells (i := 1) rfl, ?_⟩
        have hR3 : Rolls ta ts' fun w => SlR (IntC .u8) 1 w ba bs ∧ PaR w sa t.parts ∧ SlR (IntC .i64) 1 w ta ts' := ⟨fun _ h => h.2.2, by omega⟩
        refine dNext H42 (i := 0) rfl hR3 (by omega) (by omega) fun v p4 w43 _ hv hp4 H43 => ?_
        refine ⟨keepB1 (H41.ok 1 _ rfl) (H43.ok 1 _ rfl), ?_⟩
        refine kW_intro fun y _ => ?_
        refine (law21_agree_ct (s := t) H43.get.2.1 htg H43.get.1 hbB (by omega) hbc).mono ?_
        rintro _ w44 ⟨rfl, hb44⟩; have H44 := H43.pass hb44
        exact ⟨_, rfl, rfl, H44.below⟩
      · refine made_One_ct H12 (i := 0) rfl hR2 hp3 (by omega) fun v p4 w13 _ hp4 H13 => ?_
        clear H12
        replace H13 : St (All w) [] w w13 [dice g ta tc ts p4, .blk b Ty_api_Receiver (encRc s sa sc)] (fun w => SlR (IntC .u8) 1 w ba bs ∧ PaS w sa s.parts ∧ SlR (IntC .i64) 1 w ta ts) := H13
        have done : ∀ {w' : World} {t : Rc} {p : Nat}, t.parts = s.parts → p ≤ ts.length → St (All w) [] w w' [dice g ta tc ts p, .blk b Ty_api_Receiver (encRc t sa sc)] (fun w => SlR (IntC .u8) 1 w ba bs ∧ PaS w sa s.parts ∧ SlR (IntC .i64) 1 w ta ts) → MadeS w g b ta tc ts.length sa sc ba bs w' := fun {w' t p} e hp H =>
          ⟨t, ts, p, by rw [e]; exact hs.2, rfl, hp, H.imp fun _ h => ⟨h.1, by rw [e]; exact h.2.1.1, h.2.2⟩⟩
        refine bsplit_intro (fun c0 => ?_) (fun c0 => done rfl hp4 H13)
        refine dNext H13 (i := 0) rfl hR2 hp4 (by omega) fun k p5 w14 _ _ hp5 H14 => ?_
        clear H13
        replace H14 : St (All w) [] w w14 [dice g ta tc ts p5, .blk b Ty_api_Receiver (encRc s sa sc)] (fun w => SlR (IntC .u8) 1 w ba bs ∧ PaS w sa s.parts ∧ SlR (IntC .i64) 1 w ta ts) := H14
        refine kLet_in ?_
        refine bsplit_dec (fun c1 => ?_) (fun c1 => ?_)
        · refine ⟨_, _, _, _, _, _, H14.cellsAt (i := 1) (o := 0) (vs := [.int .i64 s.lk.bits, .int .i64 s.lk.every, .int .i64 s.lk.poll, .int .i64 s.lk.wait, .int .i64 s.lk.quiet, .int .i64 s.lk.tries]) rfl rfl, ?_⟩
          obtain ⟨A, hA, hn', hr, hc⟩ := H14.callM (i := 0) rfl
          refine (made_OddLink_ct (l := s.lk) hA hR2 hr hn' hp5).mono ?_
          rintro _ w15 ⟨l, p6, rfl, hp6, S⟩
          have H15 := hc S; clear H14 hc S hA
          rw [List.append_nil] at H15
          refine ⟨_, _, _, _, _, _, rfl, ?_⟩
          refine H15.storeAt (i := 1) rfl (by show 0 + 6 ≤ 14; decide) (by rfl) ?_; clear H15; intro w16 H16
          exact done (t := { s with lk := l }) rfl hp6 (H16.imp fun _ h => h.1)
        refine kLet_in ?_
        refine bsplit_dec (fun c2 => ?_) (fun c2 => ?_)
        · refine H14.drew ?_; clear H14; intro w17 H17
          refine ⟨fun y => y = b, ?_⟩
          refine ⟨rfl, ?_⟩
          refine H17.ld (i := 1) rfl rfl ?_
          refine dNext H17 (i := 0) rfl hR2 hp5 (by omega) fun z p6 w18 _ _ hp6 H18 => ?_
          refine ⟨keepB1 (H17.ok 1 _ rfl) (H18.ok 1 _ rfl), ?_⟩
          refine kW_intro fun y _ => ?_
          refine kW_intro fun x _ => ?_
          refine H18.set (i := 1) rfl (by show 6 < 14; decide) ?_; clear H18; intro w19 H19
          exact done (t := { s with first := x }) rfl hp6 H19
        refine kLet_in ?_
        refine bsplit_dec (fun c3 => ?_) (fun c3 => ?_)
        · refine H14.drew ?_; clear H14; intro w17 H17
          refine ⟨fun y => y = b, ?_⟩
          refine ⟨rfl, ?_⟩
          refine H17.ld (i := 1) rfl rfl ?_
          refine dNext H17 (i := 0) rfl hR2 hp5 (by omega) fun z p6 w18 _ _ hp6 H18 => ?_
          refine ⟨keepB1 (H17.ok 1 _ rfl) (H18.ok 1 _ rfl), ?_⟩
          refine kW_intro fun y _ => ?_
          refine kW_intro fun x _ => ?_
          refine H18.set (i := 1) rfl (by show 7 < 14; decide) ?_; clear H18; intro w19 H19
          exact done (t := { s with next := x }) rfl hp6 H19
        refine kLet_in ?_
        refine bsplit_dec (fun c4 => ?_) (fun c4 => ?_)
        · refine H14.drew ?_; clear H14; intro w17 H17
          refine ⟨fun y => y = b, ?_⟩
          refine ⟨rfl, ?_⟩
          refine H17.ld (i := 1) rfl rfl ?_
          refine dNext H17 (i := 0) rfl hR2 hp5 (by omega) fun z p6 w18 _ _ hp6 H18 => ?_
          refine ⟨keepB1 (H17.ok 1 _ rfl) (H18.ok 1 _ rfl), ?_⟩
          refine kW_intro fun y _ => ?_
          refine kW_intro fun x _ => ?_
          refine H18.set (i := 1) rfl (by show 8 < 14; decide) ?_; clear H18; intro w19 H19
          exact done (t := { s with upto := x }) rfl hp6 H19
        refine kLet_in ?_
        refine bsplit_dec (fun c5 => ?_) (fun c5 => ?_)
        · refine dNext H14 (i := 0) rfl hR2 hp5 (by omega) fun z p6 w18 _ _ hp6 H18 => ?_
          refine kW_intro fun x _ => ?_
          refine H18.set (i := 1) rfl (by show 9 < 14; decide) ?_; clear H18; intro w19 H19
          exact done (t := { s with mark := x }) rfl hp6 H19
        refine kLet_in ?_
        refine bsplit_dec (fun c6 => ?_) (fun c6 => ?_)
        · refine dNext H14 (i := 0) rfl hR2 hp5 (by omega) fun z p6 w18 _ _ hp6 H18 => ?_
          refine kW_intro fun x _ => ?_
          refine H18.set (i := 1) rfl (by show 10 < 14; decide) ?_; clear H18; intro w19 H19
          exact done (t := { s with left := x }) rfl hp6 H19
        refine kLet_in ?_
        refine bsplit_dec (fun c7 => ?_) (fun c7 => ?_)
        · refine dNext H14 (i := 0) rfl hR2 hp5 (by omega) fun z p6 w18 _ _ hp6 H18 => ?_
          refine kW_intro fun x _ => ?_
          refine H18.set (i := 1) rfl (by show 11 < 14; decide) ?_; clear H18; intro w19 H19
          exact done (t := { s with quiet := x }) rfl hp6 H19
        refine kLet_in ?_
        have hln : (s.parts.length : Int) ≤ 600 := by have := (rc_fit hs.1).1.1; omega
        refine bsplit_dec (fun c8 => ?_) (fun c8 => ?_)
        · refine H14.ldS (i := 1) rfl rfl ?_
          refine bsplit_dec (fun c9 => ?_) (fun c9 => done rfl hp5 H14)
          have hne : s.parts ≠ [] := fun h => by rw [h] at c9; simp at c9
          refine H14.drew ?_; clear H14; intro w32 H32
          refine ⟨fun y => y = b, ?_⟩
          refine ⟨rfl, ?_⟩
          refine H32.ldS (i := 1) rfl rfl ?_
          refine dNext H32 (i := 0) rfl hR2 hp5 (by omega) fun z p6 w33 _ hz hp6 H33 => ?_
          have hz := hz (by omega)
          refine ⟨keepB1 (H32.ok 1 _ rfl) (H33.ok 1 _ rfl), ?_⟩
          clear H32
          obtain ⟨k, rfl⟩ := natOf hz.1
          have hk : k < s.parts.length := by omega
          rcases H33.get.2.1.1 with h0 | ⟨b1, hb1, -⟩
          · exact absurd h0 hne
          refine ⟨b1, hb1, ⟨by omega, by omega⟩, ?_⟩
          rw [Int.toNat_natCast]
          have cel : ∀ {w' : World}, PaR w' sa s.parts → ∃ x : Int, w'.cell? ((b1.add (k * 5)).add 2) = some (.int .i64 x) := fun {w'} h => by
            rcases h with h0 | ⟨b2, hb2, hh⟩
            · exact absurd h0 hne
            · obtain rfl : b1 = b2 := by rw [hb1] at hb2; exact Option.some.inj hb2
              obtain ⟨_, _, _, _, ⟨_, _, h2, _⟩, _⟩ := hh k hk
              exact ⟨_, h2⟩
          have hqb : ((b1.add (k * 5)).add 2).block = b1.block := by rw [add_block, add_block]
          refine H33.drew ?_; clear H33; intro w34 H34
          obtain ⟨x, hx⟩ := cel H34.get.2.1.1
          refine ⟨fun y => y < w34.heap.size ∧ y ∉ [g], ?_⟩
          refine ⟨⟨cell_lt hx, ?_⟩, ?_⟩
          · obtain ⟨A, hA, -, h2⟩ := H34.held
            have hAb : A b1.block := held_at hA (fun _ h => h.2.1.1) hne hb1
            refine nin1 fun e => ?_
            rw [hqb] at e
            exact h2 0 _ rfl g rfl (by rw [← e]; exact hAb)
          refine ⟨x, hx, ?_⟩
          refine dNext H34 (i := 0) rfl hR2 hp6 (by omega) fun y p7 w35 f35 _ hp7 H35 => ?_
          refine ⟨f35.keeps, ?_⟩
          clear H34
          refine kW_intro fun x2 _ => ?_
          refine kW_intro fun x3 _ => ?_
          replace H35 : St (All w) [] w w35 [dice g ta tc ts p7, .blk b Ty_api_Receiver (encRc s sa sc)] (fun w => SlR (IntC .u8) 1 w ba bs ∧ PaS w sa s.parts ∧ SlR (IntC .i64) 1 w ta ts) := H35
          obtain ⟨x4, hx4⟩ := cel H35.get.2.1.1
          exact pokeR H35 hs.2 hsf hp7 hb1 hne hqb (.int _ _) hx4 fun w36 h => h
        · refine H14.ldS (i := 1) rfl rfl ?_
          refine bsplit_dec (fun c9 => ?_) (fun c9 => done rfl hp5 H14)
          have hne : s.parts ≠ [] := fun h => by rw [h] at c9; simp at c9
          refine H14.drew ?_; clear H14; intro w32 H32
          refine ⟨fun y => y = b, ?_⟩
          refine ⟨rfl, ?_⟩
          refine H32.ldS (i := 1) rfl rfl ?_
          refine dNext H32 (i := 0) rfl hR2 hp5 (by omega) fun z p6 w33 _ hz hp6 H33 => ?_
          have hz := hz (by omega)
          refine ⟨keepB1 (H32.ok 1 _ rfl) (H33.ok 1 _ rfl), ?_⟩
          clear H32
          replace H33 : St (All w) [] w w33 [dice g ta tc ts p6, .blk b Ty_api_Receiver (encRc s sa sc)] (fun w => SlR (IntC .u8) 1 w ba bs ∧ PaS w sa s.parts ∧ SlR (IntC .i64) 1 w ta ts) := H33
          obtain ⟨k, rfl⟩ := natOf hz.1
          have hk : k < s.parts.length := by omega
          rcases H33.get.2.1.1 with h0 | ⟨b1, hb1, hh⟩
          · exact absurd h0 hne
          refine ⟨b1, hb1, ⟨by omega, by omega⟩, ?_⟩
          rw [Int.toNat_natCast]
          have hqb : ((b1.add (k * 5)).add 1).block = b1.block := by rw [add_block, add_block]
          obtain ⟨_, _, _, _, ⟨_, h2, _⟩, _⟩ := hh k hk
          have h2' : w33.cell? ((b1.add (k * 5)).add 1) = some (.bool s.parts[k].done) := h2
          refine ⟨_, h2', ?_⟩
          exact pokeR H33 hs.2 hsf hp6 hb1 hne hqb (.bool _ _) h2' fun w36 h => h
    · have hR2 : Rolls ta ts fun w => SlR (IntC .u8) 1 w ea ee.1 ∧ PaS w sa s.parts ∧ SlR (IntC .i64) 1 w ta ts := ⟨fun _ h => h.2.2, by omega⟩
      refine made_One_ct H9 (i := 0) rfl hR2 hp2 (by omega) fun v p3 w10 _ hp3 H10 => ?_
      clear H9
      replace H10 : St (All w) [] w w10 [dice g ta tc ts p3, .blk b Ty_api_Receiver (encRc s sa sc)] (fun w => SlR (IntC .u8) 1 w ea ee.1 ∧ PaS w sa s.parts ∧ SlR (IntC .i64) 1 w ta ts) := H10
      refine bsplit_intro (fun c0 => ?_) (fun c0 => ⟨ee.1, p3, rfl, heb, by omega, hec, hp3, H10⟩)
      have hS0 := H10.get.1
      obtain ⟨A, hA, hn', hr, hc⟩ := H10.callM (i := 0) rfl
      refine (made_Spoil_ct hA hR2 hr hn' hp3 hS0 heb (by omega)).mono ?_
      rintro _ w11 ⟨ra, rc, zs, p4, rfl, hzB, hzl, hp4, S⟩
      have H11 := (hc S).imp fun _ h => h.2
      clear hc S hA H10
      replace H11 : St (All w) [] w w11 ([dice g ta tc ts p4, .blk b Ty_api_Receiver (encRc s sa sc)] ++ [.ints Ty_uint8 .u8 ra rc zs]) (fun w => SlR (IntC .u8) 1 w ea ee.1 ∧ PaS w sa s.parts ∧ SlR (IntC .i64) 1 w ta ts) := H11
      have hcap := H11.capI (i := 2) rfl
      refine ⟨_, _, _, rfl, ?_⟩
      exact ⟨zs, p4, rfl, hzB, by omega, hcap, hp4, (St.shareLast H11).imp fun _ h => ⟨(ints_ok h.1).sl, h.2.2⟩⟩
end
end Go.Proofs.YthceaojjeokclaaGreat
