/-
  Ask, Hear, Judge and Late answer as the reference does.
-/
import Derived.Test.YteiiglefbbhinaaJoinG
import Derived.Test.YteiiglefbbhinaaJoinI
import Derived.Test.YteiiglefbbhinaaJoinJ
import Derived.Test.YteiiglefbbhinaaJoinK
namespace Go.Proofs.Yteiiglefbbhinaa
open Go.RowKit
set_option linter.unusedVariables false
set_option linter.unusedSimpArgs false
theorem ask_same (ph sp no si tr me bt spo fr : Int) : ∃ a0 a1 a2 a3 a4 b0 b1 b2 b3 b4 b5 b6 b7 E : Int, (∀ w : World, Calls Try.prog 11 #[.agg #[.int .i64 ph, .int .i64 sp, .int .i64 no, .int .i64 si, .int .i64 tr], .int .i64 me, .int .i64 bt, .int .i64 spo, .int .i64 fr] w fun e w' => e = .returned (.tuple #[.agg #[.int .i64 a0, .int .i64 a1, .int .i64 a2, .int .i64 a3, .int .i64 a4], .agg #[.int .i64 b0, .int .i64 b1, .int .i64 b2, .int .i64 b3, .int .i64 b4, .int .i64 b5, .int .i64 b6, .int .i64 b7], .int .i64 E]) ∧ Below w.heap.size w w') ∧ (∀ w : World, Calls Try.prog 12 #[.agg #[.int .i64 ph, .int .i64 sp, .int .i64 no, .int .i64 si, .int .i64 tr], .int .i64 me, .int .i64 bt, .int .i64 spo, .int .i64 fr] w fun e w' => e = .returned (.tuple #[.agg #[.int .i64 a0, .int .i64 a1, .int .i64 a2, .int .i64 a3, .int .i64 a4], .agg #[.int .i64 b0, .int .i64 b1, .int .i64 b2, .int .i64 b3, .int .i64 b4, .int .i64 b5, .int .i64 b6, .int .i64 b7], .int .i64 E]) ∧ Below w.heap.size w w') := by
  by_cases h : askP ph sp no si tr me bt spo fr
  · by_cases hp : ph = 0
    · by_cases ht : tr = 255
      · exact ⟨_, _, _, _, _, _, _, _, _, _, _, _, _, _, fun w => ask_l _ _ _ _ _ _ _ _ _ w h hp ht, fun w => rask_l _ _ _ _ _ _ _ _ _ w h hp ht⟩
      · exact ⟨_, _, _, _, _, _, _, _, _, _, _, _, _, _, fun w => ask_o _ _ _ _ _ _ _ _ _ w h hp ht, fun w => rask_o _ _ _ _ _ _ _ _ _ w h hp ht⟩
    · exact ⟨_, _, _, _, _, _, _, _, _, _, _, _, _, _, fun w => ask_s _ _ _ _ _ _ _ _ _ w h hp, fun w => rask_s _ _ _ _ _ _ _ _ _ w h hp⟩
  · exact ⟨_, _, _, _, _, _, _, _, _, _, _, _, _, _, fun w => ask_arg _ _ _ _ _ _ _ _ _ w h, fun w => rask_arg _ _ _ _ _ _ _ _ _ w h⟩
theorem hear_same (ph sp no si tr k st ws wn ch key f n fr me : Int) : ∃ (a0 a1 a2 a3 a4 b0 b1 b2 b3 b4 b5 b6 b7 : Int) (b : Bool), (∀ w : World, Calls Try.prog 13 #[.agg #[.int .i64 ph, .int .i64 sp, .int .i64 no, .int .i64 si, .int .i64 tr], .int .i64 me, .agg #[.int .i64 k, .int .i64 st, .int .i64 ws, .int .i64 wn, .int .i64 ch, .int .i64 key, .int .i64 f, .int .i64 n], .int .i64 fr] w fun e w' => e = .returned (.tuple #[.agg #[.int .i64 a0, .int .i64 a1, .int .i64 a2, .int .i64 a3, .int .i64 a4], .agg #[.int .i64 b0, .int .i64 b1, .int .i64 b2, .int .i64 b3, .int .i64 b4, .int .i64 b5, .int .i64 b6, .int .i64 b7], .bool b]) ∧ Below w.heap.size w w') ∧ (∀ w : World, Calls Try.prog 14 #[.agg #[.int .i64 ph, .int .i64 sp, .int .i64 no, .int .i64 si, .int .i64 tr], .int .i64 me, .agg #[.int .i64 k, .int .i64 st, .int .i64 ws, .int .i64 wn, .int .i64 ch, .int .i64 key, .int .i64 f, .int .i64 n], .int .i64 fr] w fun e w' => e = .returned (.tuple #[.agg #[.int .i64 a0, .int .i64 a1, .int .i64 a2, .int .i64 a3, .int .i64 a4], .agg #[.int .i64 b0, .int .i64 b1, .int .i64 b2, .int .i64 b3, .int .i64 b4, .int .i64 b5, .int .i64 b6, .int .i64 b7], .bool b]) ∧ Below w.heap.size w w') := by
  by_cases h : hearP ph sp no si tr k st ws wn ch fr me
  rotate_left
  · exact ⟨_, _, _, _, _, _, _, _, _, _, _, _, _, _, fun w => hear_refused _ _ _ _ _ _ _ _ _ _ _ _ _ _ _ w h, fun w => rhear_refused _ _ _ _ _ _ _ _ _ _ _ _ _ _ _ w h⟩
  obtain ⟨hv, hf, f0, f1, rfl, rfl, rfl⟩ := h
  by_cases k2 : k = 2
  · subst k2
    by_cases p1 : ph = 1
    · subst p1; exact ⟨_, _, _, _, _, _, _, _, _, _, _, _, _, _, fun w => hear_c1 _ _ _ _ _ _ _ _ _ _ w hv hf f0 f1, fun w => rhear_c1 _ _ _ _ _ _ _ _ _ _ w hv hf f0 f1⟩
    by_cases p2 : ph = 2
    · subst p2; exact ⟨_, _, _, _, _, _, _, _, _, _, _, _, _, _, fun w => hear_c2 _ _ _ _ _ _ _ _ _ _ w hv hf f0 f1, fun w => rhear_c2 _ _ _ _ _ _ _ _ _ _ w hv hf f0 f1⟩
    · exact ⟨_, _, _, _, _, _, _, _, _, _, _, _, _, _, fun w => hear_c0 _ _ _ _ _ _ _ _ _ _ _ w hv hf f0 f1 (by rw [bne_iff_ne]; exact p1) (by rw [bne_iff_ne]; exact p2), fun w => rhear_c0 _ _ _ _ _ _ _ _ _ _ _ w hv hf f0 f1 (by rw [bne_iff_ne]; exact p1) (by rw [bne_iff_ne]; exact p2)⟩
  by_cases k4 : k = 4
  · subst k4
    by_cases p2 : ph = 2
    · subst p2
      by_cases hk : key = 1000000 + st
      · subst hk; exact ⟨_, _, _, _, _, _, _, _, _, _, _, _, _, _, fun w => hear_wy _ _ _ _ _ _ _ _ _ w hv hf f0 f1, fun w => rhear_wy _ _ _ _ _ _ _ _ _ w hv hf f0 f1⟩
      · exact ⟨_, _, _, _, _, _, _, _, _, _, _, _, _, _, fun w => hear_wn _ _ _ _ _ _ _ _ _ _ w hv hf f0 f1 (beq_eq_false_iff_ne.2 hk), fun w => rhear_wn _ _ _ _ _ _ _ _ _ _ w hv hf f0 f1 (beq_eq_false_iff_ne.2 hk)⟩
    · exact ⟨_, _, _, _, _, _, _, _, _, _, _, _, _, _, fun w => hear_w0 _ _ _ _ _ _ _ _ _ _ _ w hv hf f0 f1 (beq_eq_false_iff_ne.2 p2), fun w => rhear_w0 _ _ _ _ _ _ _ _ _ _ _ w hv hf f0 f1 (beq_eq_false_iff_ne.2 p2)⟩
  · exact ⟨_, _, _, _, _, _, _, _, _, _, _, _, _, _, fun w => hear_d _ _ _ _ _ _ _ _ _ _ _ _ w hv hf f0 f1 (beq_eq_false_iff_ne.2 k2) (beq_eq_false_iff_ne.2 k4), fun w => rhear_d _ _ _ _ _ _ _ _ _ _ _ _ w hv hf f0 f1 (beq_eq_false_iff_ne.2 k2) (beq_eq_false_iff_ne.2 k4)⟩
theorem judge_same (k st ws wn ch key f n x y : Int) : ∃ b0 b1 b2 b3 b4 b5 b6 b7 E : Int, (∀ w : World, Calls Try.prog 15 #[.agg #[.int .i64 k, .int .i64 st, .int .i64 ws, .int .i64 wn, .int .i64 ch, .int .i64 key, .int .i64 f, .int .i64 n], .agg #[.int .i64 x, .int .i64 y]] w fun e w' => e = .returned (.tuple #[.agg #[.int .i64 b0, .int .i64 b1, .int .i64 b2, .int .i64 b3, .int .i64 b4, .int .i64 b5, .int .i64 b6, .int .i64 b7], .int .i64 E]) ∧ Below w.heap.size w w') ∧ (∀ w : World, Calls Try.prog 16 #[.agg #[.int .i64 k, .int .i64 st, .int .i64 ws, .int .i64 wn, .int .i64 ch, .int .i64 key, .int .i64 f, .int .i64 n], .agg #[.int .i64 x, .int .i64 y]] w fun e w' => e = .returned (.tuple #[.agg #[.int .i64 b0, .int .i64 b1, .int .i64 b2, .int .i64 b3, .int .i64 b4, .int .i64 b5, .int .i64 b6, .int .i64 b7], .int .i64 E]) ∧ Below w.heap.size w w') := by
  by_cases h : judgeP k st ws wn ch x y
  rotate_left
  · exact ⟨_, _, _, _, _, _, _, _, _, fun w => judge_arg _ _ _ _ _ _ _ _ _ _ w h, fun w => rjudge_arg _ _ _ _ _ _ _ _ _ _ w h⟩
  obtain ⟨hf, h0, h1, h2⟩ := h
  by_cases hk : k = 3
  · by_cases hy : key = 1000000 + st
    · exact ⟨_, _, _, _, _, _, _, _, _, fun w => judge_o _ _ _ _ _ _ _ _ _ _ w hf h0 h1 h2 hk hy, fun w => rjudge_o _ _ _ _ _ _ _ _ _ _ w hf h0 h1 h2 hk hy⟩
    · exact ⟨_, _, _, _, _, _, _, _, _, fun w => judge_y _ _ _ _ _ _ _ _ _ _ w hf h0 h1 h2 hk hy, fun w => rjudge_y _ _ _ _ _ _ _ _ _ _ w hf h0 h1 h2 hk hy⟩
  · exact ⟨_, _, _, _, _, _, _, _, _, fun w => judge_k _ _ _ _ _ _ _ _ _ _ w hf h0 h1 h2 hk, fun w => rjudge_k _ _ _ _ _ _ _ _ _ _ w hf h0 h1 h2 hk⟩
theorem late_same (ph sp no si tr fr : Int) : ∃ a0 a1 a2 a3 a4 : Int, (∀ w : World, Calls Try.prog 17 #[.agg #[.int .i64 ph, .int .i64 sp, .int .i64 no, .int .i64 si, .int .i64 tr], .int .i64 fr] w fun e w' => e = .returned (.agg #[.int .i64 a0, .int .i64 a1, .int .i64 a2, .int .i64 a3, .int .i64 a4]) ∧ Below w.heap.size w w') ∧ (∀ w : World, Calls Try.prog 18 #[.agg #[.int .i64 ph, .int .i64 sp, .int .i64 no, .int .i64 si, .int .i64 tr], .int .i64 fr] w fun e w' => e = .returned (.agg #[.int .i64 a0, .int .i64 a1, .int .i64 a2, .int .i64 a3, .int .i64 a4]) ∧ Below w.heap.size w w') := by
  by_cases h : lateP ph sp no si tr fr
  · exact ⟨_, _, _, _, _, fun w => late_yes _ _ _ _ _ _ w h, fun w => rlate_yes _ _ _ _ _ _ w h⟩
  · exact ⟨_, _, _, _, _, fun w => late_no _ _ _ _ _ _ w h, fun w => rlate_no _ _ _ _ _ _ w h⟩
end Go.Proofs.Yteiiglefbbhinaa
