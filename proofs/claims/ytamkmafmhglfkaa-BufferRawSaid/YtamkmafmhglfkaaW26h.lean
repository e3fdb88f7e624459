import Derived.Test.YtamkmafmhglfkaaW26g
namespace Go.Proofs.Ytamkmafmhglfkaa
open Go.Sx Go.RowKit

theorem bst_lt' (l : Nat → Int) : ∀ k, 0 < k → bst l k < k
  | k + 1, _ => by
    simp only [bst]; split
    · omega
    · rcases Nat.eq_zero_or_pos k with rfl | h
      · simp [bst]
      · have := bst_lt' l k h; omega
theorem part_w (a b c d : Int) (w : World) : (part Ty_4_int #[.int .i64 a, .int .i64 b, .int .i64 c, .int .i64 d] 0).run Try.prog w = .ok (.agg #[.int .i64 a, .int .i64 b, .int .i64 c, .int .i64 d]) w :=
  partVal_run (by kernel_rfl) w
theorem fields_w : ∃ f : Field, (Try.prog.fieldsOf Ty_api_Waiting).toList = [f] ∧ f.type = Ty_4_int ∧ f.offset = 0 ∧ f.name ≠ "_" :=
  ⟨((Try.prog.fieldsOf Ty_api_Waiting).toList.headD default), by kernel_rfl, by kernel_rfl, by kernel_rfl, by decide +kernel⟩
/-- '==' of two reports -/
theorem eq_waiting {x y : Operand} {a b c d a' b' c' d' : Int} {F : Bool → Prop} (h : F (decide ([a, b, c, d] = [a', b', c', d']))) :
    EqP Try.prog .eql Ty_api_Waiting x y (.agg #[.int .i64 a, .int .i64 b, .int .i64 c, .int .i64 d]) (.agg #[.int .i64 a', .int .i64 b', .int .i64 c', .int .i64 d']) F := by
  refine ⟨_, fun w => ?_, h⟩
  obtain ⟨f, hf, ht, ho, hn⟩ := fields_w
  have h1 := run_eqGuard_agg (P := Try.prog) w .eql Ty_api_Waiting x y #[.int .i64 a, .int .i64 b, .int .i64 c, .int .i64 d] #[.int .i64 a', .int .i64 b', .int .i64 c', .int .i64 d'] (by kernel_rfl)
  have hiS : (Try.prog.info? Ty_int).isSome = true := by kernel_rfl
  obtain ⟨i, hi⟩ := Option.isSome_iff_exists.1 hiS
  have hcI : Try.prog.cellsOf Ty_int = 1 := by kernel_rfl
  have he := eqItems_ints (P := Try.prog) (e := Ty_int) (k := .i64) (k' := .i64) (by kernel_rfl) 9997 [a, b, c, d] [a', b', c', d'] w (List.range 4) (fun i hi => by simp at hi ⊢; omega)
  have hall := all_getD (xs := [a, b, c, d]) (ys := [a', b', c', d']) rfl
  have ha := run_equalIn_array (P := Try.prog) w 9998 (t := Ty_4_int) (e := Ty_int) (n := 4) #[.int .i64 a, .int .i64 b, .int .i64 c, .int .i64 d] #[.int .i64 a', .int .i64 b', .int .i64 c', .int .i64 d'] (by kernel_rfl) hi
  rw [hcI] at ha
  have ha2 : (Op.equalIn 9999 Ty_4_int (.agg #[.int .i64 a, .int .i64 b, .int .i64 c, .int .i64 d]) (.agg #[.int .i64 a', .int .i64 b', .int .i64 c', .int .i64 d'])).run Try.prog w = .ok (decide ([a, b, c, d] = [a', b', c', d'])) w := by
    rw [ha, ← hall]; exact he
  rw [bind_ok h1, run_eql_struct, run_equalIn_struct (P := Try.prog) w 9999 Ty_api_Waiting _ _ (by kernel_rfl) (by kernel_rfl), hf]
  simp only [Op.eqFields, ht, ho, hn, Sem.run_bind, part_w, Result.andThen_ok, ha2, if_true, ne_eq, not_false_eq_true]
  cases hd : decide ([a, b, c, d] = [a', b', c', d'])
  · simp
  · simp
end Go.Proofs.Ytamkmafmhglfkaa
