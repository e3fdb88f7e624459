import Derived.Test.YtmhggobilcmdmaaM20c
import Derived.Test.YtmhggobilcmdmaaM18
/- Chapter 20, plain: the piece that Build gives; no program in sight. -/
namespace Go.Sx
open Go.Proofs.Ytmhggobilcmdmaa
theorem cut_at {b : Int} {p : Pc} {size : Int} (h : (cutP b p size).2.2 = 0) : (cutP b p size).1.sn = p.sn ∧ (cutP b p size).1.off = p.off ∧ (cutP b p size).1.data = p.data.take (cutP b p size).1.data.length := by
  unfold cutP at h ⊢
  split at h
  · exact absurd h (by decide)
  · rename_i hp
    rw [if_neg hp]
    split at h
    · exact absurd h (by decide)
    · rename_i hs
      rw [if_neg hs]
      split
      · exact ⟨rfl, rfl, by simp⟩
      · exact ⟨rfl, rfl, by dsimp only; rw [List.length_take, List.take_eq_take_min]⟩
theorem pieceU_ok {l : Lk} {u : Un} (hb : bitsOk l.bits) (h : unB l u = true) (hl : askU u = true ∨ restU u = true) : (pieceU u).ok l.bits := by
  have hin := partU_in h hl
  obtain ⟨⟨hs, hd, ht, hr⟩, -, -⟩ := unB_iff.1 h
  have hpl : (pieceU u).data.length = (partU u).t.toNat - (partU u).f.toNat := by
    show ((u.data.take _).drop _).length = _
    rw [List.length_drop, List.length_take]; omega
  refine ⟨hb, hs, ?_, ⟨by show (0 : Int) ≤ 0; omega, by show (0 : Int) ≤ 1; omega⟩, ?_, ⟨hin.1, by show (partU u).f ≤ 2054; omega⟩, by omega, by show (partU u).f + _ ≤ 2054; omega⟩
  · show 0 ≤ partOf _ _ ∧ partOf _ _ ≤ 3
    unfold partOf
    split <;> split <;> omega
  · show (partOf _ _ = 0 ∨ partOf _ _ = 1) ↔ (partU u).f = 0
    unfold partOf
    by_cases h0 : (partU u).f = 0
    · simp only [h0, decide_true, if_true]
      split <;> simp
    · rw [decide_eq_false h0]
      refine iff_of_false (fun h => ?_) h0
      simp only [Bool.false_eq_true, if_false] at h
      split at h <;> omega
theorem begE_zero {s : Sd} (h : OkS s) (hf : s.failed = false) : begE s = 0 := by
  unfold begE
  rw [if_neg (by rw [okB_iff.2 h]; decide), if_neg (by rw [hf]; decide)]
theorem build_go {s : Sd} {size : Int} (h : OkS s) (hz : 5 ≤ size ∧ size ≤ 4096) : (leftI s.units < 0 ∧ (buildS s size 0).2.2 = 14) ∨ (0 ≤ leftI s.units ∧ (buildS s size 0).2.2 = 0) := by
  unfold buildS
  rw [if_neg (by omega), if_neg (by omega)]
  by_cases hl : leftI s.units < 0
  · rw [if_pos hl]; exact .inl ⟨hl, rfl⟩
  · rw [if_neg hl]
    obtain ⟨k, hk, hlk⟩ := leftI_some (L := s.units) (by omega)
    have hkn : (leftI s.units).toNat = k := by omega
    simp only [hkn, List.getElem?_eq_getElem hk]
    have hpo := pieceU_ok h.lk.1 (h.all _ (List.getElem_mem hk)).1 (leftI_unit hk hlk)
    have hc : (cutP s.lk.bits (pieceU s.units[k]) size).2.2 = 0 := by
      have hh : headN (pieceU s.units[k]).part ≤ 4 := by unfold headN; split <;> omega
      unfold cutP
      rw [if_neg (by simpa using hpo), if_neg (by omega)]
      split <;> rfl
    rw [if_neg (by rw [hc]; decide)]
    refine .inr ⟨by omega, ?_⟩
    unfold buildT
    dsimp only
    split <;> rfl
/-- the piece behind the bytes of Build -/
theorem build_piece {s : Sd} {size E : Int} (h : OkS s) (he : (buildS s size E).2.2 = 0) : ∃ (k : Nat) (hk : k < s.units.length) (q : Pc), leftI s.units = k ∧ q.ok s.lk.bits ∧ (buildS s size E).2.1 = q.bytes ∧ q.sn = s.units[k].sn ∧ q.off = (partU s.units[k]).f ∧
    1 ≤ q.data.length ∧ (partU s.units[k]).f + q.data.length ≤ (partU s.units[k]).t ∧ q.data = (s.units[k].data.drop (partU s.units[k]).f.toNat).take q.data.length ∧ (buildS s size E).1.units = s.units.set k (takeU s.units[k] q.data.length) ∧
    (q.poll = 1 ↔ s.pieces + 1 = s.lk.every ∨ leftI (buildS s size E).1.units < 0) ∧ (leftI (buildS s size E).1.units < 0 → (buildS s size E).1.left = s.lk.poll) := by
  obtain ⟨k, hk, q, hl, hq, hc, hb, hqo, hqp, hn, hn2⟩ := build_inv h he
  have ha := cut_at hc
  rw [← hq] at ha
  have hin := partU_in (h.all _ (List.getElem_mem hk)).1 (leftI_unit hk hl)
  have hdata : q.data = (s.units[k].data.drop (partU s.units[k]).f.toNat).take q.data.length := by
    have h1 := ha.2.2
    have h2 : (pieceU s.units[k]).data = (s.units[k].data.drop (partU s.units[k]).f.toNat).take ((partU s.units[k]).t.toNat - (partU s.units[k]).f.toNat) := by
      show (s.units[k].data.take _).drop _ = _
      rw [List.drop_take]
    rw [h2, List.take_take, Nat.min_eq_left (by omega)] at h1
    exact h1
  have hok2 : Pc.ok s.lk.bits { q with poll := 1 } := ⟨hqo.1, hqo.2.1, hqo.2.2.1, ⟨by show (0 : Int) ≤ 1; decide, by show (1 : Int) ≤ 1; decide⟩, hqo.2.2.2.2⟩
  rw [hb]
  unfold buildT
  dsimp only
  split
  · rename_i hcnd
    refine ⟨k, hk, { q with poll := 1 }, hl, hok2, by rw [encP, if_pos hok2], ha.1, ha.2.1, hn, hn2, hdata, rfl, iff_of_true rfl ?_, fun _ => rfl⟩
    exact hcnd
  · rename_i hcnd
    refine ⟨k, hk, q, hl, hqo, by rw [encP, if_pos hqo], ha.1, ha.2.1, hn, hn2, hdata, rfl, iff_of_false (by omega) hcnd, fun h => absurd (.inr h) hcnd⟩
end Go.Sx
/- Chapter 20, plain: without reports every byte is sent once; no program in sight. -/
namespace Go.Sx
open Go.Proofs.Ytmhggobilcmdmaa
def restB (L : List Un) : List Int := L.flatMap fun u => u.data.drop u.sent.toNat
def noAg (L : List Un) : Prop := ∀ u ∈ L, u.again = []
theorem restB_whole : ∀ {L : List Un}, (∀ u ∈ L, restU u = false) → restB L = []
  | [], _ => rfl
  | u :: L, h => by
    have hu := h u (by simp)
    have hu : wholeU u := by unfold restU at hu; simpa using hu
    unfold wholeU at hu
    show u.data.drop u.sent.toNat ++ restB L = []
    rw [restB_whole fun v hv => h v (by simp [hv]), hu]
    simp
theorem restB_app (A B : List Un) : restB (A ++ B) = restB A ++ restB B := by simp [restB]
/-- what is left when nothing is to be sent again -/
theorem restB_nil {s : Sd} (h : OkS s) (hn : noAg s.units) : restB s.units = [] ↔ leftI s.units < 0 := by
  rw [leftI_neg]
  constructor
  · intro hr u hu
    refine ⟨by unfold askU; rw [hn u hu]; simp, ?_⟩
    have hz := (unB_iff.1 (h.all u hu).1).1
    have h1 : u.data.drop u.sent.toNat = [] := by
      have := List.flatMap_eq_nil_iff.1 hr u hu
      exact this
    have h2 := congrArg List.length h1
    simp at h2
    have h3 := hz.2.2.1
    have h4 : wholeU u := by unfold wholeU; omega
    unfold restU
    rw [decide_eq_true h4]; rfl
  · intro hr
    exact restB_whole fun u hu => (hr u hu).2
/-- a piece takes from the front -/
theorem restB_step {s : Sd} {size : Int} (h : OkS s) (hn : noAg s.units) (he : (buildS s size 0).2.2 = 0) : ∃ q : Pc, q.ok s.lk.bits ∧ (buildS s size 0).2.1 = q.bytes ∧ 1 ≤ q.data.length ∧ restB s.units = q.data ++ restB (buildS s size 0).1.units ∧ noAg (buildS s size 0).1.units ∧
    (q.poll = 1 ↔ s.pieces + 1 = s.lk.every ∨ leftI (buildS s size 0).1.units < 0) ∧ (leftI (buildS s size 0).1.units < 0 → (buildS s size 0).1.left = s.lk.poll) := by
  obtain ⟨k, hk, q, hl, hqo, hqb, hsn, hof, h1, h2, hd, hu, hp, hle⟩ := build_piece h he
  have hag := hn _ (List.getElem_mem hk)
  have hpu : partU s.units[k] = ⟨s.units[k].sn, s.units[k].sent, s.units[k].data.length⟩ := by unfold partU; rw [hag]
  rw [hpu] at hof h2 hd
  dsimp only at hof h2 hd
  have tk : ∀ (u : Un) (n : Int), u.again = [] → takeU u n = { u with sent := u.sent + n } := fun u n h => by unfold takeU; rw [h]
  have htk : takeU s.units[k] q.data.length = { s.units[k] with sent := s.units[k].sent + q.data.length } := tk _ _ hag
  have hz := (unB_iff.1 (h.all _ (List.getElem_mem hk)).1).1.2.2.1
  have hsp : s.units = s.units.take k ++ s.units[k] :: s.units.drop (k + 1) := by rw [← List.drop_eq_getElem_cons hk, List.take_append_drop]
  have hset : s.units.set k (takeU s.units[k] q.data.length) = s.units.take k ++ takeU s.units[k] q.data.length :: s.units.drop (k + 1) := by
    rw [List.set_eq_take_append_cons_drop, if_pos hk]
  have hpre : restB (s.units.take k) = [] := by
    refine restB_whole fun u hu => ?_
    obtain ⟨j, hj, rfl⟩ := List.getElem_of_mem hu
    have hjk : j < k := by rw [List.length_take] at hj; omega
    rw [List.getElem_take]
    rcases leftI_spec hk hl with h3 | h3
    · have := h3.1; unfold askU at this; rw [hag] at this; simp at this
    · exact h3.2.2 j hjk
  refine ⟨q, hqo, hqb, h1, ?_, ?_, hp, hle⟩
  · rw [hu, hset]
    have e1 : restB s.units = restB (s.units.take k ++ s.units[k] :: s.units.drop (k + 1)) := by rw [← hsp]
    rw [e1, restB_app, restB_app, hpre]
    show s.units[k].data.drop s.units[k].sent.toNat ++ restB (s.units.drop (k + 1)) = q.data ++ ((takeU s.units[k] q.data.length).data.drop (takeU s.units[k] q.data.length).sent.toNat ++ restB (s.units.drop (k + 1)))
    rw [htk]
    dsimp only
    rw [← List.append_assoc]
    congr 1
    have e2 : (s.units[k].sent + q.data.length).toNat = s.units[k].sent.toNat + q.data.length := by omega
    rw [e2, ← List.drop_drop]
    conv => lhs; rw [← List.take_append_drop q.data.length (s.units[k].data.drop s.units[k].sent.toNat)]
    rw [← hd]
  · rw [hu]
    intro u hm
    rcases List.mem_or_eq_of_mem_set hm with hm | rfl
    · exact hn u hm
    · rw [htk]; exact hag
theorem sub_go {s : Sd} {d : List Int} (h : OkS s) (hd : 1 ≤ d.length ∧ d.length ≤ 2054) (hp : s.place s.next < 2 ^ (s.lk.bits - 1).toNat) :
    (subS s d 0).2 = 0 ∧ (subS s d 0).1.units = s.units ++ [⟨s.next, d, 0, 0, []⟩] ∧ (subS s d 0).1.place (subS s d 0).1.next = s.place s.next + 1 := by
  have hh := half_lt h.lk.1
  unfold subS
  rw [if_neg (by omega), if_neg (by omega), if_neg (by omega)]
  exact ⟨rfl, rfl, way_succ h.lk.1 (show s.place s.next + 1 < 2 ^ s.lk.bits.toNat by omega)⟩
end Go.Sx
namespace Go.Proofs.Ytmhggobilcmdmaa
open Go.Sx Go.RowKit
theorem dec_enc {b : Int} {p : Pc} (h : p.ok b) : decP b p.bytes = (p, 0) := by
  obtain ⟨sn, part, poll, off, d⟩ := p
  have hf := Pc.first_range h
  obtain ⟨hb, h0, h1, h2, h3, h4, h5, h6⟩ := h
  simp only at h0 h1 h2 h3 h4 h5 h6
  have hp := pow_bits hb
  obtain ⟨f, hfe⟩ : ∃ f, f = Pc.first ⟨sn, part, poll, off, d⟩ := ⟨_, rfl⟩
  have hfe2 := hfe
  simp only [Pc.first] at hfe2
  rw [← hfe] at hf
  have g0 : (Pc.bytes ⟨sn, part, poll, off, d⟩).getD 0 0 = f / 256 := by rw [hfe]; rfl
  have g1 : (Pc.bytes ⟨sn, part, poll, off, d⟩).getD 1 0 = f % 256 := by rw [hfe]; rfl
  have ef : 256 * (Pc.bytes ⟨sn, part, poll, off, d⟩).getD 0 0 + (Pc.bytes ⟨sn, part, poll, off, d⟩).getD 1 0 = f := by rw [g0, g1]; omega
  have hraw : rawP (Pc.bytes ⟨sn, part, poll, off, d⟩) = ⟨sn, part, poll, off, d⟩ := by
    unfold rawP
    simp only [ef]
    have e1 : f % 4096 = sn := by omega
    have e2 : f / 4096 % 4 = part := by omega
    have e3 : f / 16384 % 2 = poll := by omega
    rw [e1, e2, e3]
    rcases headN_cases part with ⟨hc, hh⟩ | ⟨hc, hh⟩
    · rw [if_pos hc, hh]
      simp only [Pc.bytes, if_pos hc, List.append_nil]
      have : off = 0 := by omega
      rw [this]; rfl
    · rw [if_neg hc, hh]
      simp only [Pc.bytes, if_neg hc]
      have : 256 * (off / 256) + off % 256 = off := by omega
      simp [this]
  have hlen : (Pc.bytes ⟨sn, part, poll, off, d⟩).length = headN part + d.length := by
    unfold Pc.bytes headN
    split <;> simp <;> omega
  unfold decP
  rw [if_neg (by simpa using hb), if_neg (by have := headN_cases part; omega), hraw, if_neg (by simp only; omega), if_neg (by
    rw [g0]; simp only [not_or, Decidable.not_not]
    exact ⟨by omega, hb, h0, h1, h2, h3, h4, h5, h6⟩)]
end Go.Proofs.Ytmhggobilcmdmaa
