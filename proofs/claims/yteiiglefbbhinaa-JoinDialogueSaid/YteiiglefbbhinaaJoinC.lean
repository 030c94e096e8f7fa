/-
  The reference's Valid.
-/
import Derived.Test.YteiiglefbbhinaaJoinA
namespace Go.Proofs.Yteiiglefbbhinaa
open Go.RowKit
set_option linter.unusedVariables false
set_option linter.unusedSimpArgs false
set_option maxHeartbeats 2000000 in
set_option maxRecDepth 100000 in
theorem rvalid_0 (ph sp no si tr : Int) (w : World)  (g0 : ¬ 0 ≤ ph)  : Calls Try.prog 19 #[.agg #[.int .i64 ph, .int .i64 sp, .int .i64 no, .int .i64 si, .int .i64 tr]] w fun e w' => e = .returned (.bool false) ∧ w.alloc (.cells #[.int .i64 ph, .int .i64 sp, .int .i64 no, .int .i64 si, .int .i64 tr] 23) = w' := by
  have t0 : decide (0 ≤ ph) = false := decide_eq_false g0
  go_enter Try.func19, Try.ntmps19
  go_wp2
  go_ret
  exact ⟨rfl, rfl⟩
set_option maxHeartbeats 2000000 in
set_option maxRecDepth 100000 in
theorem rvalid_1 (ph sp no si tr : Int) (w : World) (g0 : 0 ≤ ph) (g1 : ¬ ph ≤ 3)  : Calls Try.prog 19 #[.agg #[.int .i64 ph, .int .i64 sp, .int .i64 no, .int .i64 si, .int .i64 tr]] w fun e w' => e = .returned (.bool false) ∧ w.alloc (.cells #[.int .i64 ph, .int .i64 sp, .int .i64 no, .int .i64 si, .int .i64 tr] 23) = w' := by
  have t0 : decide (0 ≤ ph) = true := decide_eq_true g0
  have t1 : decide (ph ≤ 3) = false := decide_eq_false g1
  go_enter Try.func19, Try.ntmps19
  go_wp2
  go_ret
  exact ⟨rfl, rfl⟩
set_option maxHeartbeats 2000000 in
set_option maxRecDepth 100000 in
theorem rvalid_2 (ph sp no si tr : Int) (w : World) (g0 : 0 ≤ ph) (g1 : ph ≤ 3) (g2 : ¬ 0 ≤ tr)  : Calls Try.prog 19 #[.agg #[.int .i64 ph, .int .i64 sp, .int .i64 no, .int .i64 si, .int .i64 tr]] w fun e w' => e = .returned (.bool false) ∧ w.alloc (.cells #[.int .i64 ph, .int .i64 sp, .int .i64 no, .int .i64 si, .int .i64 tr] 23) = w' := by
  have t0 : decide (0 ≤ ph) = true := decide_eq_true g0
  have t1 : decide (ph ≤ 3) = true := decide_eq_true g1
  have t2 : decide (0 ≤ tr) = false := decide_eq_false g2
  go_enter Try.func19, Try.ntmps19
  go_wp2
  go_ret
  exact ⟨rfl, rfl⟩
set_option maxHeartbeats 2000000 in
set_option maxRecDepth 100000 in
theorem rvalid_3 (ph sp no si tr : Int) (w : World) (g0 : 0 ≤ ph) (g1 : ph ≤ 3) (g2 : 0 ≤ tr) (g3 : ¬ tr ≤ 255)  : Calls Try.prog 19 #[.agg #[.int .i64 ph, .int .i64 sp, .int .i64 no, .int .i64 si, .int .i64 tr]] w fun e w' => e = .returned (.bool false) ∧ w.alloc (.cells #[.int .i64 ph, .int .i64 sp, .int .i64 no, .int .i64 si, .int .i64 tr] 23) = w' := by
  have t0 : decide (0 ≤ ph) = true := decide_eq_true g0
  have t1 : decide (ph ≤ 3) = true := decide_eq_true g1
  have t2 : decide (0 ≤ tr) = true := decide_eq_true g2
  have t3 : decide (tr ≤ 255) = false := decide_eq_false g3
  go_enter Try.func19, Try.ntmps19
  go_wp2
  go_ret
  exact ⟨rfl, rfl⟩
set_option maxHeartbeats 2000000 in
set_option maxRecDepth 100000 in
theorem rvalid_4 (ph sp no si tr : Int) (w : World) (g0 : 0 ≤ ph) (g1 : ph ≤ 3) (g2 : 0 ≤ tr) (g3 : tr ≤ 255) (g4 : ¬ 0 ≤ si)  : Calls Try.prog 19 #[.agg #[.int .i64 ph, .int .i64 sp, .int .i64 no, .int .i64 si, .int .i64 tr]] w fun e w' => e = .returned (.bool false) ∧ w.alloc (.cells #[.int .i64 ph, .int .i64 sp, .int .i64 no, .int .i64 si, .int .i64 tr] 23) = w' := by
  have t0 : decide (0 ≤ ph) = true := decide_eq_true g0
  have t1 : decide (ph ≤ 3) = true := decide_eq_true g1
  have t2 : decide (0 ≤ tr) = true := decide_eq_true g2
  have t3 : decide (tr ≤ 255) = true := decide_eq_true g3
  have t4 : decide (0 ≤ si) = false := decide_eq_false g4
  go_enter Try.func19, Try.ntmps19
  go_wp2
  go_ret
  exact ⟨rfl, rfl⟩
set_option maxHeartbeats 2000000 in
set_option maxRecDepth 100000 in
theorem rvalid_5 (ph sp no si tr : Int) (w : World) (g0 : 0 ≤ ph) (g1 : ph ≤ 3) (g2 : 0 ≤ tr) (g3 : tr ≤ 255) (g4 : 0 ≤ si) (g5 : ¬ si ≤ 1000000000)  : Calls Try.prog 19 #[.agg #[.int .i64 ph, .int .i64 sp, .int .i64 no, .int .i64 si, .int .i64 tr]] w fun e w' => e = .returned (.bool false) ∧ w.alloc (.cells #[.int .i64 ph, .int .i64 sp, .int .i64 no, .int .i64 si, .int .i64 tr] 23) = w' := by
  have t0 : decide (0 ≤ ph) = true := decide_eq_true g0
  have t1 : decide (ph ≤ 3) = true := decide_eq_true g1
  have t2 : decide (0 ≤ tr) = true := decide_eq_true g2
  have t3 : decide (tr ≤ 255) = true := decide_eq_true g3
  have t4 : decide (0 ≤ si) = true := decide_eq_true g4
  have t5 : decide (si ≤ 1000000000) = false := decide_eq_false g5
  go_enter Try.func19, Try.ntmps19
  go_wp2
  go_ret
  exact ⟨rfl, rfl⟩
set_option maxHeartbeats 2000000 in
set_option maxRecDepth 100000 in
theorem rvalid_6 (ph sp no si tr : Int) (w : World) (g0 : 0 ≤ ph) (g1 : ph ≤ 3) (g2 : 0 ≤ tr) (g3 : tr ≤ 255) (g4 : 0 ≤ si) (g5 : si ≤ 1000000000) (g6 : ¬ 0 ≤ no)  : Calls Try.prog 19 #[.agg #[.int .i64 ph, .int .i64 sp, .int .i64 no, .int .i64 si, .int .i64 tr]] w fun e w' => e = .returned (.bool false) ∧ w.alloc (.cells #[.int .i64 ph, .int .i64 sp, .int .i64 no, .int .i64 si, .int .i64 tr] 23) = w' := by
  have t0 : decide (0 ≤ ph) = true := decide_eq_true g0
  have t1 : decide (ph ≤ 3) = true := decide_eq_true g1
  have t2 : decide (0 ≤ tr) = true := decide_eq_true g2
  have t3 : decide (tr ≤ 255) = true := decide_eq_true g3
  have t4 : decide (0 ≤ si) = true := decide_eq_true g4
  have t5 : decide (si ≤ 1000000000) = true := decide_eq_true g5
  have t6 : decide (0 ≤ no) = false := decide_eq_false g6
  go_enter Try.func19, Try.ntmps19
  go_wp2
  go_ret
  exact ⟨rfl, rfl⟩
set_option maxHeartbeats 2000000 in
set_option maxRecDepth 100000 in
theorem rvalid_7 (ph sp no si tr : Int) (w : World) (g0 : 0 ≤ ph) (g1 : ph ≤ 3) (g2 : 0 ≤ tr) (g3 : tr ≤ 255) (g4 : 0 ≤ si) (g5 : si ≤ 1000000000) (g6 : 0 ≤ no) (g7 : ¬ no ≤ 1000000000)  : Calls Try.prog 19 #[.agg #[.int .i64 ph, .int .i64 sp, .int .i64 no, .int .i64 si, .int .i64 tr]] w fun e w' => e = .returned (.bool false) ∧ w.alloc (.cells #[.int .i64 ph, .int .i64 sp, .int .i64 no, .int .i64 si, .int .i64 tr] 23) = w' := by
  have t0 : decide (0 ≤ ph) = true := decide_eq_true g0
  have t1 : decide (ph ≤ 3) = true := decide_eq_true g1
  have t2 : decide (0 ≤ tr) = true := decide_eq_true g2
  have t3 : decide (tr ≤ 255) = true := decide_eq_true g3
  have t4 : decide (0 ≤ si) = true := decide_eq_true g4
  have t5 : decide (si ≤ 1000000000) = true := decide_eq_true g5
  have t6 : decide (0 ≤ no) = true := decide_eq_true g6
  have t7 : decide (no ≤ 1000000000) = false := decide_eq_false g7
  go_enter Try.func19, Try.ntmps19
  go_wp2
  go_ret
  exact ⟨rfl, rfl⟩
set_option maxHeartbeats 2000000 in
set_option maxRecDepth 100000 in
theorem rvalid_8 (ph sp no si tr : Int) (w : World) (g0 : 0 ≤ ph) (g1 : ph ≤ 3) (g2 : 0 ≤ tr) (g3 : tr ≤ 255) (g4 : 0 ≤ si) (g5 : si ≤ 1000000000) (g6 : 0 ≤ no) (g7 : no ≤ 1000000000) : Calls Try.prog 19 #[.agg #[.int .i64 ph, .int .i64 sp, .int .i64 no, .int .i64 si, .int .i64 tr]] w fun e w' => e = .returned (.bool (validB ph sp no si tr)) ∧ w.alloc (.cells #[.int .i64 ph, .int .i64 sp, .int .i64 no, .int .i64 si, .int .i64 tr] 23) = w' := by
  by_cases hs : sp = -1
  · have e : validB ph sp no si tr = true := by unfold validB; exact decide_eq_true ⟨g0, g1, g2, g3, g4, g5, g6, g7, by omega, by omega⟩
    rw [e]
    subst hs
    have t0 : decide (0 ≤ ph) = true := decide_eq_true g0
    have t1 : decide (ph ≤ 3) = true := decide_eq_true g1
    have t2 : decide (0 ≤ tr) = true := decide_eq_true g2
    have t3 : decide (tr ≤ 255) = true := decide_eq_true g3
    have t4 : decide (0 ≤ si) = true := decide_eq_true g4
    have t5 : decide (si ≤ 1000000000) = true := decide_eq_true g5
    have t6 : decide (0 ≤ no) = true := decide_eq_true g6
    have t7 : decide (no ≤ 1000000000) = true := decide_eq_true g7
    go_enter Try.func19, Try.ntmps19
    go_wp2
    go_ret
    exact ⟨rfl, rfl⟩
  · have e : validB ph sp no si tr = nodeB sp := by
      unfold validB nodeB
      by_cases hn : 0 ≤ sp ∧ sp < 60
      · rw [decide_eq_true hn]; exact decide_eq_true ⟨g0, g1, g2, g3, g4, g5, g6, g7, by omega, by omega⟩
      · rw [decide_eq_false hn]; exact decide_eq_false (fun h => hn (by have := h.2.2.2.2.2.2.2.2; omega))
    rw [e]
    have hs' : (sp == -1) = false := beq_eq_false_iff_ne.2 hs
    clear hs e
    have t0 : decide (0 ≤ ph) = true := decide_eq_true g0
    have t1 : decide (ph ≤ 3) = true := decide_eq_true g1
    have t2 : decide (0 ≤ tr) = true := decide_eq_true g2
    have t3 : decide (tr ≤ 255) = true := decide_eq_true g3
    have t4 : decide (0 ≤ si) = true := decide_eq_true g4
    have t5 : decide (si ≤ 1000000000) = true := decide_eq_true g5
    have t6 : decide (0 ≤ no) = true := decide_eq_true g6
    have t7 : decide (no ≤ 1000000000) = true := decide_eq_true g7
    go_enter Try.func19, Try.ntmps19
    go_wp2_with (go_at_call 24; refine (rid_all _ _).mono ?_; rintro e w' ⟨rfl, rfl⟩)
    go_ret
    exact ⟨by simp, rfl⟩
theorem rvalid_all (ph sp no si tr : Int) (w : World) : Calls Try.prog 19 #[.agg #[.int .i64 ph, .int .i64 sp, .int .i64 no, .int .i64 si, .int .i64 tr]] w fun e w' => e = .returned (.bool (validB ph sp no si tr)) ∧ w.alloc (.cells #[.int .i64 ph, .int .i64 sp, .int .i64 no, .int .i64 si, .int .i64 tr] 23) = w' := by
  by_cases g0 : 0 ≤ ph
  rotate_left
  · have e : validB ph sp no si tr = false := by unfold validB; exact decide_eq_false (fun h => g0 h.1)
    rw [e]; exact rvalid_0 ph sp no si tr w g0
  by_cases g1 : ph ≤ 3
  rotate_left
  · have e : validB ph sp no si tr = false := by unfold validB; exact decide_eq_false (fun h => g1 h.2.1)
    rw [e]; exact rvalid_1 ph sp no si tr w g0 g1
  by_cases g2 : 0 ≤ tr
  rotate_left
  · have e : validB ph sp no si tr = false := by unfold validB; exact decide_eq_false (fun h => g2 h.2.2.1)
    rw [e]; exact rvalid_2 ph sp no si tr w g0 g1 g2
  by_cases g3 : tr ≤ 255
  rotate_left
  · have e : validB ph sp no si tr = false := by unfold validB; exact decide_eq_false (fun h => g3 h.2.2.2.1)
    rw [e]; exact rvalid_3 ph sp no si tr w g0 g1 g2 g3
  by_cases g4 : 0 ≤ si
  rotate_left
  · have e : validB ph sp no si tr = false := by unfold validB; exact decide_eq_false (fun h => g4 h.2.2.2.2.1)
    rw [e]; exact rvalid_4 ph sp no si tr w g0 g1 g2 g3 g4
  by_cases g5 : si ≤ 1000000000
  rotate_left
  · have e : validB ph sp no si tr = false := by unfold validB; exact decide_eq_false (fun h => g5 h.2.2.2.2.2.1)
    rw [e]; exact rvalid_5 ph sp no si tr w g0 g1 g2 g3 g4 g5
  by_cases g6 : 0 ≤ no
  rotate_left
  · have e : validB ph sp no si tr = false := by unfold validB; exact decide_eq_false (fun h => g6 h.2.2.2.2.2.2.1)
    rw [e]; exact rvalid_6 ph sp no si tr w g0 g1 g2 g3 g4 g5 g6
  by_cases g7 : no ≤ 1000000000
  rotate_left
  · have e : validB ph sp no si tr = false := by unfold validB; exact decide_eq_false (fun h => g7 h.2.2.2.2.2.2.2.1)
    rw [e]; exact rvalid_7 ph sp no si tr w g0 g1 g2 g3 g4 g5 g6 g7
  exact rvalid_8 ph sp no si tr w g0 g1 g2 g3 g4 g5 g6 g7
end Go.Proofs.Yteiiglefbbhinaa
