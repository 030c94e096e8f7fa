/-
  Words for the laws on package join: who may ask; what is valid and well-formed.
-/
import Derived.Test.YteiiglefbbhinaaJoinM
namespace Go.Proofs.Yteiiglefbbhinaa
open Go.RowKit
set_option linter.unusedVariables false
set_option linter.unusedSimpArgs false
/-- May it ask, and does the word go out? -/
def askOk (ph sp no si tr me bt spo fr : Int) : Prop := askP ph sp no si tr me bt spo fr ∧ ph = 0 ∧ tr ≠ 255
theorem ask_no (ph sp no si tr me bt spo fr : Int) (h : ¬ askOk ph sp no si tr me bt spo fr) : ∃ E : Int, (E != 0) = true ∧ ∀ w : World, Calls Try.prog 11 #[.agg #[.int .i64 ph, .int .i64 sp, .int .i64 no, .int .i64 si, .int .i64 tr], .int .i64 me, .int .i64 bt, .int .i64 spo, .int .i64 fr] w fun e w' => e = .returned (.tuple #[.agg #[.int .i64 0, .int .i64 0, .int .i64 0, .int .i64 0, .int .i64 0], .agg #[.int .i64 0, .int .i64 0, .int .i64 0, .int .i64 0, .int .i64 0, .int .i64 0, .int .i64 0, .int .i64 0], .int .i64 E]) ∧ Below w.heap.size w w' := by
  unfold askOk at h
  by_cases hp : askP ph sp no si tr me bt spo fr
  · by_cases h0 : ph = 0
    · have ht : tr = 255 := Decidable.byContradiction fun ht => h ⟨hp, h0, ht⟩
      exact ⟨2, by decide, fun w => ask_l _ _ _ _ _ _ _ _ _ w hp h0 ht⟩
    · exact ⟨6, by decide, fun w => ask_s _ _ _ _ _ _ _ _ _ w hp h0⟩
  · exact ⟨1, by decide, fun w => ask_arg _ _ _ _ _ _ _ _ _ w hp⟩
theorem ask_ok (ph sp no si tr me bt spo fr : Int) (w : World) (h : askOk ph sp no si tr me bt spo fr) : Calls Try.prog 11 #[.agg #[.int .i64 ph, .int .i64 sp, .int .i64 no, .int .i64 si, .int .i64 tr], .int .i64 me, .int .i64 bt, .int .i64 spo, .int .i64 fr] w fun e w' => e = .returned (.tuple #[.agg #[.int .i64 1, .int .i64 spo, .int .i64 (256 * bt + tr + 1), .int .i64 fr, .int .i64 (tr + 1)], .agg #[.int .i64 1, .int .i64 me, .int .i64 spo, .int .i64 (256 * bt + tr + 1), .int .i64 0, .int .i64 0, .int .i64 0, .int .i64 0], .int .i64 0]) ∧ Below w.heap.size w w' :=
  ask_o _ _ _ _ _ _ _ _ _ w h.1 h.2.1 h.2.2
theorem formed_mk {k st ws wn ch : Int} (h : (0 ≤ st ∧ st < 60) ∧ (0 ≤ ws ∧ ws < 60) ∧ st ≠ ws ∧ (0 ≤ wn ∧ wn ≤ 1000000000) ∧ (0 ≤ ch ∧ ch ≤ 1000000000) ∧ 1 ≤ k ∧ k ≤ 4) : formedB k st ws wn ch = true := by
  unfold formedB nodeB
  simp only [decide_eq_true_eq]
  omega
theorem valid_mk {ph sp no si tr : Int} (h : (0 ≤ ph ∧ ph ≤ 3) ∧ (-1 ≤ sp ∧ sp < 60) ∧ (0 ≤ no ∧ no ≤ 1000000000) ∧ (0 ≤ si ∧ si ≤ 1000000000) ∧ (0 ≤ tr ∧ tr ≤ 255)) : validB ph sp no si tr = true := by
  unfold validB; exact decide_eq_true (by omega)
theorem node_of {n : Int} (h : nodeB n = true) : 0 ≤ n ∧ n < 60 := by unfold nodeB at h; exact of_decide_eq_true h
theorem node_mk {n : Int} (h : 0 ≤ n ∧ n < 60) : nodeB n = true := by unfold nodeB; exact decide_eq_true h
theorem node_no {n : Int} (h : n < 0 ∨ 60 ≤ n) : nodeB n = false := by unfold nodeB; exact decide_eq_false (by omega)
end Go.Proofs.Yteiiglefbbhinaa
