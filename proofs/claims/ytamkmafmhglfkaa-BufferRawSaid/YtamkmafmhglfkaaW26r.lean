import Derived.Test.YtamkmafmhglfkaaW26q
import Derived.Test.YtamkmafmhglfkaaW26h
import Derived.Test.YtamkmafmhglfkaaOp
namespace Go.Sx
open Go.RowKit Go.WideShapes Go.ChangeShapes Go.ChangeAt
/-- an argument that is a struct around one array of numbers -/
theorem open_boxArr {H : Type} {enc : TypeId × Value → H} {P : Program} {W : World} {base b0 : Nat} {spare : Nat → Bool} {held : Bool} {r : Reach} {t e : TypeId} {fs : Array Field} {f : Field} {k : IntKind} {n : Nat} {v : Value} {d : DataW H} {p : List MemPlace}
    (ht : P.underlying t = some (.struct fs)) (hf0 : fs[0]? = some f) (ho : f.offset = 0) (hu : P.underlying f.type = some (.array n e)) (he : P.underlying e = some (.int k)) (hc : P.cellsOf e = 1) (hct : P.cellsOf f.type = n) (hctt : P.cellsOf t = n)
    (hv : Value.okWide P W r b0 t v) (h : DataW.Trod enc P W base spare held t v d p) :
    ∃ xs : List Int, v = .agg (xs.map (Value.int k)).toArray ∧ xs.length = n ∧ ∀ i (h : i < xs.length), (Lit.int k xs[i]).wf = true := by
  obtain ⟨cs, rfl, _⟩ := okWide_struct ht hv
  obtain ⟨fuel, hf⟩ := h
  obtain ⟨xs, m, _, _, hl, hlen, hfs⟩ := DataW.trod_struct ht hf
  have h5 := hfs 0 f hf0
  have hlt : 0 < xs.length := by rw [hlen]; exact (Array.getElem?_eq_some_iff.1 hf0).1
  rw [List.getElem?_eq_getElem hlt, ho, hct, List.drop_zero] at h5
  have hcells : (Value.agg cs).cells.toList = cs.toList := rfl
  rw [hctt] at hl
  rw [hcells] at h5 hl
  rw [List.take_of_length_le (by omega)] at h5
  obtain ⟨ys, m2, _, _, hl2, hyl, hy⟩ := DataW.trod_array hu h5
  have hsz : cs.size = n := by simpa using hl
  have key : ∀ i (hi : i < cs.size), ∃ x : Int, cs[i] = .int k x ∧ (Lit.int k x).wf = true := by
    intro i hi
    have h1 := hy i (by omega)
    rw [hc, Nat.mul_one] at h1
    have e1 : (cs.toList.drop i).take 1 = [cs[i]] := by
      rw [List.drop_eq_getElem_cons (by simpa using hi)]
      simp
    rw [e1] at h1
    rw [List.getElem?_eq_getElem (by omega)] at h1
    obtain ⟨x, hx, _, hw⟩ := DataW.trod_int he h1
    injection hx with hx
    exact ⟨x, hx, hw⟩
  refine ⟨cs.toList.map intOf, ?_, by simp; omega, fun i hi => ?_⟩
  · congr 1
    apply Array.ext
    · simp
    · intro i h1 h2
      obtain ⟨x, hx, _⟩ := key i h1
      simp [hx, intOf]
  · obtain ⟨x, hx, hw⟩ := key i (by simpa using hi)
    simp [hx, intOf]; exact hw
end Go.Sx
namespace Go.Proofs.Ytamkmafmhglfkaa
open Go.Sx Go.RowKit
set_option maxRecDepth 100000

theorem law26_BufferRaw_ct {n room ch x0 x1 x2 x3 : Int} {a b sa : Option Addr} {c1 c2 c3 : Nat} {ws gs bs : List Int} {w : World} (ha : SlR (IntC .i64) 1 w a ws) (hb : SlR (IntC .i64) 1 w b gs)
    (hs : SlR (IntC .u8) 1 w sa bs) (hby : Bytes bs) :
    Calls Try.prog N_law26_BufferRaw #[(.int .i64 n), (.slice a ws.length c1), (.slice b gs.length c2), (.agg #[.int .i64 x0, .int .i64 x1, .int .i64 x2, .int .i64 x3]), (.int .i64 room), (.agg #[.int .i64 ch, .slice sa bs.length c3])] w
      fun e w' => e = .returned (.bool true) ∧ Below w.heap.size w w' := by
  apply F_law26_BufferRaw_ok
  unfold F_law26_BufferRaw
  have H := St.nil w
  refine H.alloc ?_; clear H; intro b0 w1 H1
  refine H1.alloc ?_; clear H1; intro b1 w2 H2
  simp only [List.nil_append, List.cons_append] at H2
  refine ⟨fun w5 => St (fun _ => False) [] w w5 [.blk b0 Ty_api_Waiting [.int .i64 x0, .int .i64 x1, .int .i64 x2, .int .i64 x3], .blk b1 Ty_api_Section [.int .i64 ch, .slice sa bs.length c3]] (fun _ => True) ∧ bs.length ≤ 60, ?_, ?_⟩
  · rintro _ w5 ⟨H5, hbl⟩
    refine (of_ok (ha.below H5.below) (hb.below H5.below)).mono ?_
    rintro _ w6 ⟨rfl, hb6⟩; have H6 := H5.pass hb6; clear H5
    refine ⟨_, _, _, _, _, rfl, ?_⟩
    refine H6.alloc ?_; clear H6; intro b2 w7 H7
    simp only [List.nil_append, List.cons_append] at H7
    refine H7.store (i := 2) rfl (by rfl) (by rfl) ?_; clear H7; intro w8 H8
    simp only [List.set_cons_succ, List.set_cons_zero] at H8
    refine (ref26_Of_ct (ha.below H8.below) (hb.below H8.below)).mono ?_
    rintro _ w9 ⟨rfl, hb9⟩; have H9 := H8.pass hb9; clear H8
    refine ⟨_, _, _, _, _, rfl, ?_⟩
    refine H9.alloc ?_; clear H9; intro b3 w10 H10
    simp only [List.nil_append, List.cons_append] at H10
    refine H10.store (i := 3) rfl (by rfl) (by rfl) ?_; clear H10; intro w11 H11
    simp only [List.set_cons_succ, List.set_cons_zero] at H11
    refine ⟨_, _, _, _, H11.cells (i := 0) rfl, ?_⟩
    refine encode_ok.mono ?_
    rintro _ w12 ⟨ea, ec, rfl, hse, hb12⟩; have H12 := H11.pass hb12; clear H11
    refine ⟨_, _, _, _, _, rfl, ?_⟩
    have K := St.nil w12
    refine K.alloc ?_; clear K; intro b4 w13 K13
    simp only [List.nil_append] at K13
    refine K13.store (i := 0) rfl (by rfl) (by rfl) ?_; clear K13; intro w14 K14
    simp only [List.set_cons_zero] at K14
    have H14 := H12.pass K14.below
    refine ⟨_, _, _, _, H14.cells (i := 0) rfl, ?_⟩
    refine ref26_Encode_ct.mono ?_
    rintro _ w15 ⟨ra, rc, rfl, hse2, hb15⟩
    have H15 := H14.pass hb15
    have K15 := K14.pass hb15
    clear H14 K14
    refine ⟨_, _, _, _, _, rfl, ?_⟩
    have L := St.nil w15
    refine L.alloc ?_; clear L; intro b5 w16 L16
    simp only [List.nil_append] at L16
    refine L16.store (i := 0) rfl (by rfl) (by rfl) ?_; clear L16; intro w17 L17
    simp only [List.set_cons_zero] at L17
    have H17 := H15.pass L17.below
    have K17 := K15.pass L17.below
    refine ⟨_, _, _, _, H17.cells (i := 1) rfl, ?_⟩
    refine (decode_ok (hs.below H17.below) hby).mono ?_
    rintro _ w18 ⟨rfl, hb18⟩
    have L18 := L17.pass hb18
    clear L17 H17 K17
    refine ⟨_, _, _, _, _, rfl, ?_⟩
    refine L18.alloc ?_; clear L18; intro b6 w19 L19
    simp only [List.nil_append, List.cons_append] at L19
    refine L19.store (i := 1) rfl (by rfl) (by rfl) ?_; clear L19; intro w20 L20
    simp only [List.set_cons_zero, List.set_cons_succ] at L20
    have H20 := H15.pass L20.below
    refine ⟨_, _, _, _, H20.cells (i := 1) rfl, ?_⟩
    refine (ref26_Decode_ct (hs.below H20.below) hby).mono ?_
    rintro _ w21 ⟨rfl, hb21⟩
    have L21 := L20.pass hb21
    clear L20 H20
    refine ⟨_, _, _, _, _, rfl, ?_⟩
    refine L21.alloc ?_; clear L21; intro b7 w22 L22
    simp only [List.nil_append, List.cons_append] at L22
    refine L22.store (i := 2) rfl (by rfl) (by rfl) ?_; clear L22; intro w23 L23
    simp only [List.set_cons_zero, List.set_cons_succ] at L23
    have H23 := H15.pass L23.below
    have K23 := K15.pass L23.below
    refine ⟨_, _, _, _, H23.cells (i := 2) rfl, ?_⟩
    refine ⟨_, _, _, _, H23.cells (i := 3) rfl, ?_⟩
    refine eq_waiting ?_
    refine bsplit_dec (fun _ => ?_) (fun h => absurd rfl h)
    refine bsplit_dec (fun _ => ?_) (fun h => absurd rfl h)
    refine ⟨_, _, _, _, K23.cells (i := 0) rfl, ?_⟩
    refine ⟨_, _, _, _, L23.cells (i := 0) rfl, ?_⟩
    have hle : (encB (l4 x0 x1 x2 x3) room).length ≤ 2 := by unfold encB; split; · simp
                                                             · split <;> simp
    refine (law26_same_ct (hse.below K23.below) (hse2.below L23.below) (by omega)).mono ?_
    rintro _ w24 ⟨rfl, hb24⟩
    have L24 := L23.pass hb24
    have H24 := H23.pass hb24
    refine ⟨_, rfl, ?_⟩
    refine bsplit_dec (fun _ => ?_) (fun h => absurd ⟨rfl, rfl⟩ h)
    refine bsplit_dec (fun _ => ?_) (fun h => absurd rfl h)
    refine ⟨_, _, _, _, L24.cells (i := 1) rfl, ?_⟩
    refine ⟨_, _, _, _, L24.cells (i := 2) rfl, ?_⟩
    refine eq_waiting ?_
    refine bsplit_dec (fun _ => ?_) (fun h => absurd rfl h)
    refine bsplit_dec (fun _ => ?_) (fun h => absurd rfl h)
    refine (level_ok _ _).mono ?_
    rintro _ w25 ⟨rfl, hb25⟩
    have H25 := H24.pass hb25
    refine ⟨_, rfl, ?_⟩
    refine ref26_Level_ct.mono ?_
    rintro _ w26 ⟨rfl, hb26⟩
    have H26 := H25.pass hb26
    refine ⟨_, rfl, ?_⟩
    refine bsplit_dec (fun _ => ?_) (fun h => absurd rfl h)
    refine (bound_ok _ _).mono ?_
    rintro _ w27 ⟨rfl, hb27⟩
    have H27 := H26.pass hb27
    refine ⟨_, rfl, ?_⟩
    refine ref26_Bound_ct.mono ?_
    rintro _ w28 ⟨rfl, hb28⟩
    have H28 := H27.pass hb28
    refine ⟨_, rfl, ?_⟩
    refine bsplit_dec (fun _ => ?_) (fun h => absurd rfl h)
    refine (awake_ok _).mono ?_
    rintro _ w29 ⟨rfl, hb29⟩
    have H29 := H28.pass hb29
    exact ⟨_, rfl, rfl, H29.below⟩
  · refine kW_intro fun y _ => ?_
    refine bsplit_dec (fun c => ?_) (fun c => ?_)
    · refine (awake_ok _).mono ?_
      rintro _ w3 ⟨rfl, hb3⟩
      exact ⟨_, rfl, rfl, (H2.pass hb3).below⟩
    · refine H2.ldS (i := 1) rfl rfl ?_
      refine bsplit_dec (fun c' => ?_) (fun c' => ?_)
      · refine (awake_ok _).mono ?_
        rintro _ w3 ⟨rfl, hb3⟩
        exact ⟨_, rfl, rfl, (H2.pass hb3).below⟩
      · exact ⟨H2, by omega⟩

def shSection : Shape := .cons 1 (.int .i64) (.cons 1 (.sl 1 (.int .u8)) .nil)
theorem section_of {W : World} {cs : Array Value} (h : shSection.R W cs.toList) : ∃ ch a c bs, cs = #[.int .i64 ch, .slice a (bs : List Int).length c] ∧ SlR (IntC .u8) 1 W a bs ∧ Bytes bs := by
  obtain ⟨⟨u, e0, _⟩, ⟨a, l, c, e1, hl, _, hs⟩, e2⟩ := h
  obtain ⟨bs, hbl, hb, hw⟩ := sl_ints hs
  subst hbl
  refine ⟨u, a, c, bs, ?_, hb, fun i hi => by have := bounds_u8 (hw i hi); omega⟩
  have h0 := tk1 e0; have h1 := tk1 e1
  rw [e2] at h1; rw [h1] at h0
  exact Array.toList_inj.1 h0
end Go.Proofs.Ytamkmafmhglfkaa
