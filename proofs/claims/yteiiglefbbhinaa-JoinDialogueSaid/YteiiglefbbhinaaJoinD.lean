/-
  Well-formed words.
-/
import Derived.Test.YteiiglefbbhinaaJoinA
namespace Go.Proofs.Yteiiglefbbhinaa
open Go.RowKit
set_option linter.unusedVariables false
set_option linter.unusedSimpArgs false
/-- A well-formed word. -/
def formedB (k st ws wn ch : Int) : Bool := decide (nodeB st = true ∧ nodeB ws = true ∧ st ≠ ws ∧ 0 ≤ wn ∧ wn ≤ 1000000000 ∧ 0 ≤ ch ∧ ch ≤ 1000000000 ∧ 1 ≤ k ∧ k ≤ 4)
set_option maxHeartbeats 2000000 in
set_option maxRecDepth 100000 in
theorem formed_0 (k st ws wn ch key f n : Int) (w : World)  (g0 : nodeB st = false) : Calls Try.prog 27 #[.agg #[.int .i64 k, .int .i64 st, .int .i64 ws, .int .i64 wn, .int .i64 ch, .int .i64 key, .int .i64 f, .int .i64 n]] w fun e w' => e = .returned (.bool false) ∧ w.alloc (.cells #[.int .i64 k, .int .i64 st, .int .i64 ws, .int .i64 wn, .int .i64 ch, .int .i64 key, .int .i64 f, .int .i64 n] 27) = w' := by
  go_enter Try.func27, Try.ntmps27
  go_wp2_with (go_at_call 23; refine (node_all _ _).mono ?_; rintro e w' ⟨rfl, rfl⟩)
  all_goals first | (go_ret; exact ⟨by first | rfl | (simp; done), rfl⟩) | (exfalso; omega)
set_option maxHeartbeats 2000000 in
set_option maxRecDepth 100000 in
theorem formed_1 (k st ws wn ch key f n : Int) (w : World) (g0 : nodeB st = true) (g1 : nodeB ws = false) : Calls Try.prog 27 #[.agg #[.int .i64 k, .int .i64 st, .int .i64 ws, .int .i64 wn, .int .i64 ch, .int .i64 key, .int .i64 f, .int .i64 n]] w fun e w' => e = .returned (.bool false) ∧ w.alloc (.cells #[.int .i64 k, .int .i64 st, .int .i64 ws, .int .i64 wn, .int .i64 ch, .int .i64 key, .int .i64 f, .int .i64 n] 27) = w' := by
  go_enter Try.func27, Try.ntmps27
  go_wp2_with (go_at_call 23; refine (node_all _ _).mono ?_; rintro e w' ⟨rfl, rfl⟩)
  all_goals first | (go_ret; exact ⟨by first | rfl | (simp; done), rfl⟩) | (exfalso; omega)
set_option maxHeartbeats 2000000 in
set_option maxRecDepth 100000 in
theorem formed_2 (k st ws wn ch key f n : Int) (w : World) (g0 : nodeB st = true) (g1 : nodeB ws = true) (g2 : ¬ (st ≠ ws)) : Calls Try.prog 27 #[.agg #[.int .i64 k, .int .i64 st, .int .i64 ws, .int .i64 wn, .int .i64 ch, .int .i64 key, .int .i64 f, .int .i64 n]] w fun e w' => e = .returned (.bool false) ∧ w.alloc (.cells #[.int .i64 k, .int .i64 st, .int .i64 ws, .int .i64 wn, .int .i64 ch, .int .i64 key, .int .i64 f, .int .i64 n] 27) = w' := by
  have t2 : (st != ws) = false := by rw [bne_eq_false_iff_eq]; omega
  clear g2
  go_enter Try.func27, Try.ntmps27
  go_wp2_with (go_at_call 23; refine (node_all _ _).mono ?_; rintro e w' ⟨rfl, rfl⟩)
  all_goals first | (go_ret; exact ⟨by first | rfl | (simp; done), rfl⟩) | (exfalso; omega)
set_option maxHeartbeats 2000000 in
set_option maxRecDepth 100000 in
theorem formed_3 (k st ws wn ch key f n : Int) (w : World) (g0 : nodeB st = true) (g1 : nodeB ws = true) (g2 : st ≠ ws) (g3 : ¬ (0 ≤ min wn ch)) : Calls Try.prog 27 #[.agg #[.int .i64 k, .int .i64 st, .int .i64 ws, .int .i64 wn, .int .i64 ch, .int .i64 key, .int .i64 f, .int .i64 n]] w fun e w' => e = .returned (.bool false) ∧ w.alloc (.cells #[.int .i64 k, .int .i64 st, .int .i64 ws, .int .i64 wn, .int .i64 ch, .int .i64 key, .int .i64 f, .int .i64 n] 27) = w' := by
  have t2 : (st != ws) = true := by rw [bne_iff_ne]; exact g2
  clear g2
  have t3 : decide (0 ≤ min wn ch) = false := decide_eq_false g3
  go_enter Try.func27, Try.ntmps27
  go_wp2_with (go_at_call 23; refine (node_all _ _).mono ?_; rintro e w' ⟨rfl, rfl⟩)
  all_goals first | (go_ret; exact ⟨by first | rfl | (simp; done), rfl⟩) | (exfalso; omega)
set_option maxHeartbeats 2000000 in
set_option maxRecDepth 100000 in
theorem formed_4 (k st ws wn ch key f n : Int) (w : World) (g0 : nodeB st = true) (g1 : nodeB ws = true) (g2 : st ≠ ws) (g3 : 0 ≤ min wn ch) (g4 : ¬ (max wn ch ≤ 1000000000)) : Calls Try.prog 27 #[.agg #[.int .i64 k, .int .i64 st, .int .i64 ws, .int .i64 wn, .int .i64 ch, .int .i64 key, .int .i64 f, .int .i64 n]] w fun e w' => e = .returned (.bool false) ∧ w.alloc (.cells #[.int .i64 k, .int .i64 st, .int .i64 ws, .int .i64 wn, .int .i64 ch, .int .i64 key, .int .i64 f, .int .i64 n] 27) = w' := by
  have t2 : (st != ws) = true := by rw [bne_iff_ne]; exact g2
  clear g2
  have t3 : decide (0 ≤ min wn ch) = true := decide_eq_true g3
  have t4 : decide (max wn ch ≤ 1000000000) = false := decide_eq_false g4
  go_enter Try.func27, Try.ntmps27
  go_wp2_with (go_at_call 23; refine (node_all _ _).mono ?_; rintro e w' ⟨rfl, rfl⟩)
  all_goals first | (go_ret; exact ⟨by first | rfl | (simp; done), rfl⟩) | (exfalso; omega)
set_option maxHeartbeats 2000000 in
set_option maxRecDepth 100000 in
theorem formed_5 (k st ws wn ch key f n : Int) (w : World) (g0 : nodeB st = true) (g1 : nodeB ws = true) (g2 : st ≠ ws) (g3 : 0 ≤ min wn ch) (g4 : max wn ch ≤ 1000000000) (g5 : ¬ (1 ≤ k)) : Calls Try.prog 27 #[.agg #[.int .i64 k, .int .i64 st, .int .i64 ws, .int .i64 wn, .int .i64 ch, .int .i64 key, .int .i64 f, .int .i64 n]] w fun e w' => e = .returned (.bool false) ∧ w.alloc (.cells #[.int .i64 k, .int .i64 st, .int .i64 ws, .int .i64 wn, .int .i64 ch, .int .i64 key, .int .i64 f, .int .i64 n] 27) = w' := by
  have t2 : (st != ws) = true := by rw [bne_iff_ne]; exact g2
  clear g2
  have t3 : decide (0 ≤ min wn ch) = true := decide_eq_true g3
  have t4 : decide (max wn ch ≤ 1000000000) = true := decide_eq_true g4
  have t5 : decide (1 ≤ k) = false := decide_eq_false g5
  go_enter Try.func27, Try.ntmps27
  go_wp2_with (go_at_call 23; refine (node_all _ _).mono ?_; rintro e w' ⟨rfl, rfl⟩)
  all_goals first | (go_ret; exact ⟨by first | rfl | (simp; done), rfl⟩) | (exfalso; omega)
set_option maxHeartbeats 2000000 in
set_option maxRecDepth 100000 in
theorem formed_6 (k st ws wn ch key f n : Int) (w : World) (g0 : nodeB st = true) (g1 : nodeB ws = true) (g2 : st ≠ ws) (g3 : 0 ≤ min wn ch) (g4 : max wn ch ≤ 1000000000) (g5 : 1 ≤ k) (g6 : ¬ (k ≤ 4)) : Calls Try.prog 27 #[.agg #[.int .i64 k, .int .i64 st, .int .i64 ws, .int .i64 wn, .int .i64 ch, .int .i64 key, .int .i64 f, .int .i64 n]] w fun e w' => e = .returned (.bool false) ∧ w.alloc (.cells #[.int .i64 k, .int .i64 st, .int .i64 ws, .int .i64 wn, .int .i64 ch, .int .i64 key, .int .i64 f, .int .i64 n] 27) = w' := by
  have t2 : (st != ws) = true := by rw [bne_iff_ne]; exact g2
  clear g2
  have t3 : decide (0 ≤ min wn ch) = true := decide_eq_true g3
  have t4 : decide (max wn ch ≤ 1000000000) = true := decide_eq_true g4
  have t5 : decide (1 ≤ k) = true := decide_eq_true g5
  have t6 : decide (k ≤ 4) = false := decide_eq_false g6
  go_enter Try.func27, Try.ntmps27
  go_wp2_with (go_at_call 23; refine (node_all _ _).mono ?_; rintro e w' ⟨rfl, rfl⟩)
  all_goals first | (go_ret; exact ⟨by first | rfl | (simp; done), rfl⟩) | (exfalso; omega)
set_option maxHeartbeats 2000000 in
set_option maxRecDepth 100000 in
theorem formed_7 (k st ws wn ch key f n : Int) (w : World) (g0 : nodeB st = true) (g1 : nodeB ws = true) (g2 : st ≠ ws) (g3 : 0 ≤ min wn ch) (g4 : max wn ch ≤ 1000000000) (g5 : 1 ≤ k) (g6 : k ≤ 4) : Calls Try.prog 27 #[.agg #[.int .i64 k, .int .i64 st, .int .i64 ws, .int .i64 wn, .int .i64 ch, .int .i64 key, .int .i64 f, .int .i64 n]] w fun e w' => e = .returned (.bool true) ∧ w.alloc (.cells #[.int .i64 k, .int .i64 st, .int .i64 ws, .int .i64 wn, .int .i64 ch, .int .i64 key, .int .i64 f, .int .i64 n] 27) = w' := by
  have t2 : (st != ws) = true := by rw [bne_iff_ne]; exact g2
  clear g2
  have t3 : decide (0 ≤ min wn ch) = true := decide_eq_true g3
  have t4 : decide (max wn ch ≤ 1000000000) = true := decide_eq_true g4
  have t5 : decide (1 ≤ k) = true := decide_eq_true g5
  have t6 : decide (k ≤ 4) = true := decide_eq_true g6
  go_enter Try.func27, Try.ntmps27
  go_wp2_with (go_at_call 23; refine (node_all _ _).mono ?_; rintro e w' ⟨rfl, rfl⟩)
  all_goals first | (go_ret; exact ⟨by first | rfl | (simp; done), rfl⟩) | (exfalso; omega)
theorem formed_all (k st ws wn ch key f n : Int) (w : World) : Calls Try.prog 27 #[.agg #[.int .i64 k, .int .i64 st, .int .i64 ws, .int .i64 wn, .int .i64 ch, .int .i64 key, .int .i64 f, .int .i64 n]] w fun e w' => e = .returned (.bool (formedB k st ws wn ch)) ∧ w.alloc (.cells #[.int .i64 k, .int .i64 st, .int .i64 ws, .int .i64 wn, .int .i64 ch, .int .i64 key, .int .i64 f, .int .i64 n] 27) = w' := by
  by_cases g0 : nodeB st = true
  rotate_left
  · have e : formedB k st ws wn ch = false := by unfold formedB; exact decide_eq_false (fun h => g0 h.1)
    rw [e]; exact formed_0 k st ws wn ch key f n w (by simpa using g0)
  by_cases g1 : nodeB ws = true
  rotate_left
  · have e : formedB k st ws wn ch = false := by unfold formedB; exact decide_eq_false (fun h => g1 h.2.1)
    rw [e]; exact formed_1 k st ws wn ch key f n w g0 (by simpa using g1)
  by_cases g2 : st ≠ ws
  rotate_left
  · have e : formedB k st ws wn ch = false := by unfold formedB; exact decide_eq_false (fun h => g2 h.2.2.1)
    rw [e]; exact formed_2 k st ws wn ch key f n w g0 g1 g2
  by_cases g3 : 0 ≤ min wn ch
  rotate_left
  · have e : formedB k st ws wn ch = false := by unfold formedB; exact decide_eq_false (fun h => g3 (by have := h.2.2.2; omega))
    rw [e]; exact formed_3 k st ws wn ch key f n w g0 g1 g2 g3
  by_cases g4 : max wn ch ≤ 1000000000
  rotate_left
  · have e : formedB k st ws wn ch = false := by unfold formedB; exact decide_eq_false (fun h => g4 (by have := h.2.2.2; omega))
    rw [e]; exact formed_4 k st ws wn ch key f n w g0 g1 g2 g3 g4
  by_cases g5 : 1 ≤ k
  rotate_left
  · have e : formedB k st ws wn ch = false := by unfold formedB; exact decide_eq_false (fun h => g5 (by have := h.2.2.2; omega))
    rw [e]; exact formed_5 k st ws wn ch key f n w g0 g1 g2 g3 g4 g5
  by_cases g6 : k ≤ 4
  rotate_left
  · have e : formedB k st ws wn ch = false := by unfold formedB; exact decide_eq_false (fun h => g6 (by have := h.2.2.2; omega))
    rw [e]; exact formed_6 k st ws wn ch key f n w g0 g1 g2 g3 g4 g5 g6
  have e : formedB k st ws wn ch = true := by unfold formedB; exact decide_eq_true ⟨g0, g1, g2, by omega, by omega, by omega, by omega, by omega, by omega⟩
  rw [e]; exact formed_7 k st ws wn ch key f n w g0 g1 g2 g3 g4 g5 g6
set_option maxHeartbeats 2000000 in
set_option maxRecDepth 100000 in
theorem rformed_0 (k st ws wn ch key f n : Int) (w : World)  (g0 : nodeB st = false) : Calls Try.prog 21 #[.agg #[.int .i64 k, .int .i64 st, .int .i64 ws, .int .i64 wn, .int .i64 ch, .int .i64 key, .int .i64 f, .int .i64 n]] w fun e w' => e = .returned (.bool false) ∧ w.alloc (.cells #[.int .i64 k, .int .i64 st, .int .i64 ws, .int .i64 wn, .int .i64 ch, .int .i64 key, .int .i64 f, .int .i64 n] 27) = w' := by
  go_enter Try.func21, Try.ntmps21
  go_wp2_with (go_at_call 24; refine (rid_all _ _).mono ?_; rintro e w' ⟨rfl, rfl⟩)
  all_goals first | (go_ret; exact ⟨by first | rfl | (simp; done), rfl⟩) | (exfalso; omega)
set_option maxHeartbeats 2000000 in
set_option maxRecDepth 100000 in
theorem rformed_1 (k st ws wn ch key f n : Int) (w : World) (g0 : nodeB st = true) (g1 : nodeB ws = false) : Calls Try.prog 21 #[.agg #[.int .i64 k, .int .i64 st, .int .i64 ws, .int .i64 wn, .int .i64 ch, .int .i64 key, .int .i64 f, .int .i64 n]] w fun e w' => e = .returned (.bool false) ∧ w.alloc (.cells #[.int .i64 k, .int .i64 st, .int .i64 ws, .int .i64 wn, .int .i64 ch, .int .i64 key, .int .i64 f, .int .i64 n] 27) = w' := by
  go_enter Try.func21, Try.ntmps21
  go_wp2_with (go_at_call 24; refine (rid_all _ _).mono ?_; rintro e w' ⟨rfl, rfl⟩)
  all_goals first | (go_ret; exact ⟨by first | rfl | (simp; done), rfl⟩) | (exfalso; omega)
set_option maxHeartbeats 2000000 in
set_option maxRecDepth 100000 in
theorem rformed_2 (k st ws wn ch key f n : Int) (w : World) (g0 : nodeB st = true) (g1 : nodeB ws = true) (g2 : ¬ (st ≠ ws)) : Calls Try.prog 21 #[.agg #[.int .i64 k, .int .i64 st, .int .i64 ws, .int .i64 wn, .int .i64 ch, .int .i64 key, .int .i64 f, .int .i64 n]] w fun e w' => e = .returned (.bool false) ∧ w.alloc (.cells #[.int .i64 k, .int .i64 st, .int .i64 ws, .int .i64 wn, .int .i64 ch, .int .i64 key, .int .i64 f, .int .i64 n] 27) = w' := by
  have t2 : (st != ws) = false := by rw [bne_eq_false_iff_eq]; omega
  clear g2
  go_enter Try.func21, Try.ntmps21
  go_wp2_with (go_at_call 24; refine (rid_all _ _).mono ?_; rintro e w' ⟨rfl, rfl⟩)
  all_goals first | (go_ret; exact ⟨by first | rfl | (simp; done), rfl⟩) | (exfalso; omega)
set_option maxHeartbeats 2000000 in
set_option maxRecDepth 100000 in
theorem rformed_3 (k st ws wn ch key f n : Int) (w : World) (g0 : nodeB st = true) (g1 : nodeB ws = true) (g2 : st ≠ ws) (g3 : ¬ (0 ≤ wn)) : Calls Try.prog 21 #[.agg #[.int .i64 k, .int .i64 st, .int .i64 ws, .int .i64 wn, .int .i64 ch, .int .i64 key, .int .i64 f, .int .i64 n]] w fun e w' => e = .returned (.bool false) ∧ w.alloc (.cells #[.int .i64 k, .int .i64 st, .int .i64 ws, .int .i64 wn, .int .i64 ch, .int .i64 key, .int .i64 f, .int .i64 n] 27) = w' := by
  have t2 : (st != ws) = true := by rw [bne_iff_ne]; exact g2
  clear g2
  have t3 : decide (0 ≤ wn) = false := decide_eq_false g3
  go_enter Try.func21, Try.ntmps21
  go_wp2_with (go_at_call 24; refine (rid_all _ _).mono ?_; rintro e w' ⟨rfl, rfl⟩)
  all_goals first | (go_ret; exact ⟨by first | rfl | (simp; done), rfl⟩) | (exfalso; omega)
set_option maxHeartbeats 2000000 in
set_option maxRecDepth 100000 in
theorem rformed_4 (k st ws wn ch key f n : Int) (w : World) (g0 : nodeB st = true) (g1 : nodeB ws = true) (g2 : st ≠ ws) (g3 : 0 ≤ wn) (g4 : ¬ (wn ≤ 1000000000)) : Calls Try.prog 21 #[.agg #[.int .i64 k, .int .i64 st, .int .i64 ws, .int .i64 wn, .int .i64 ch, .int .i64 key, .int .i64 f, .int .i64 n]] w fun e w' => e = .returned (.bool false) ∧ w.alloc (.cells #[.int .i64 k, .int .i64 st, .int .i64 ws, .int .i64 wn, .int .i64 ch, .int .i64 key, .int .i64 f, .int .i64 n] 27) = w' := by
  have t2 : (st != ws) = true := by rw [bne_iff_ne]; exact g2
  clear g2
  have t3 : decide (0 ≤ wn) = true := decide_eq_true g3
  have t4 : decide (wn ≤ 1000000000) = false := decide_eq_false g4
  go_enter Try.func21, Try.ntmps21
  go_wp2_with (go_at_call 24; refine (rid_all _ _).mono ?_; rintro e w' ⟨rfl, rfl⟩)
  all_goals first | (go_ret; exact ⟨by first | rfl | (simp; done), rfl⟩) | (exfalso; omega)
set_option maxHeartbeats 2000000 in
set_option maxRecDepth 100000 in
theorem rformed_5 (k st ws wn ch key f n : Int) (w : World) (g0 : nodeB st = true) (g1 : nodeB ws = true) (g2 : st ≠ ws) (g3 : 0 ≤ wn) (g4 : wn ≤ 1000000000) (g5 : ¬ (0 ≤ ch)) : Calls Try.prog 21 #[.agg #[.int .i64 k, .int .i64 st, .int .i64 ws, .int .i64 wn, .int .i64 ch, .int .i64 key, .int .i64 f, .int .i64 n]] w fun e w' => e = .returned (.bool false) ∧ w.alloc (.cells #[.int .i64 k, .int .i64 st, .int .i64 ws, .int .i64 wn, .int .i64 ch, .int .i64 key, .int .i64 f, .int .i64 n] 27) = w' := by
  have t2 : (st != ws) = true := by rw [bne_iff_ne]; exact g2
  clear g2
  have t3 : decide (0 ≤ wn) = true := decide_eq_true g3
  have t4 : decide (wn ≤ 1000000000) = true := decide_eq_true g4
  have t5 : decide (0 ≤ ch) = false := decide_eq_false g5
  go_enter Try.func21, Try.ntmps21
  go_wp2_with (go_at_call 24; refine (rid_all _ _).mono ?_; rintro e w' ⟨rfl, rfl⟩)
  all_goals first | (go_ret; exact ⟨by first | rfl | (simp; done), rfl⟩) | (exfalso; omega)
set_option maxHeartbeats 2000000 in
set_option maxRecDepth 100000 in
theorem rformed_6 (k st ws wn ch key f n : Int) (w : World) (g0 : nodeB st = true) (g1 : nodeB ws = true) (g2 : st ≠ ws) (g3 : 0 ≤ wn) (g4 : wn ≤ 1000000000) (g5 : 0 ≤ ch) (g6 : ¬ (ch ≤ 1000000000)) : Calls Try.prog 21 #[.agg #[.int .i64 k, .int .i64 st, .int .i64 ws, .int .i64 wn, .int .i64 ch, .int .i64 key, .int .i64 f, .int .i64 n]] w fun e w' => e = .returned (.bool false) ∧ w.alloc (.cells #[.int .i64 k, .int .i64 st, .int .i64 ws, .int .i64 wn, .int .i64 ch, .int .i64 key, .int .i64 f, .int .i64 n] 27) = w' := by
  have t2 : (st != ws) = true := by rw [bne_iff_ne]; exact g2
  clear g2
  have t3 : decide (0 ≤ wn) = true := decide_eq_true g3
  have t4 : decide (wn ≤ 1000000000) = true := decide_eq_true g4
  have t5 : decide (0 ≤ ch) = true := decide_eq_true g5
  have t6 : decide (ch ≤ 1000000000) = false := decide_eq_false g6
  go_enter Try.func21, Try.ntmps21
  go_wp2_with (go_at_call 24; refine (rid_all _ _).mono ?_; rintro e w' ⟨rfl, rfl⟩)
  all_goals first | (go_ret; exact ⟨by first | rfl | (simp; done), rfl⟩) | (exfalso; omega)
set_option maxHeartbeats 2000000 in
set_option maxRecDepth 100000 in
theorem rformed_7 (k st ws wn ch key f n : Int) (w : World) (g0 : nodeB st = true) (g1 : nodeB ws = true) (g2 : st ≠ ws) (g3 : 0 ≤ wn) (g4 : wn ≤ 1000000000) (g5 : 0 ≤ ch) (g6 : ch ≤ 1000000000) (g7 : ¬ (1 ≤ k)) : Calls Try.prog 21 #[.agg #[.int .i64 k, .int .i64 st, .int .i64 ws, .int .i64 wn, .int .i64 ch, .int .i64 key, .int .i64 f, .int .i64 n]] w fun e w' => e = .returned (.bool false) ∧ w.alloc (.cells #[.int .i64 k, .int .i64 st, .int .i64 ws, .int .i64 wn, .int .i64 ch, .int .i64 key, .int .i64 f, .int .i64 n] 27) = w' := by
  have t2 : (st != ws) = true := by rw [bne_iff_ne]; exact g2
  clear g2
  have t3 : decide (0 ≤ wn) = true := decide_eq_true g3
  have t4 : decide (wn ≤ 1000000000) = true := decide_eq_true g4
  have t5 : decide (0 ≤ ch) = true := decide_eq_true g5
  have t6 : decide (ch ≤ 1000000000) = true := decide_eq_true g6
  have t7 : decide (1 ≤ k) = false := decide_eq_false g7
  go_enter Try.func21, Try.ntmps21
  go_wp2_with (go_at_call 24; refine (rid_all _ _).mono ?_; rintro e w' ⟨rfl, rfl⟩)
  all_goals first | (go_ret; exact ⟨by first | rfl | (simp; done), rfl⟩) | (exfalso; omega)
set_option maxHeartbeats 2000000 in
set_option maxRecDepth 100000 in
theorem rformed_8 (k st ws wn ch key f n : Int) (w : World) (g0 : nodeB st = true) (g1 : nodeB ws = true) (g2 : st ≠ ws) (g3 : 0 ≤ wn) (g4 : wn ≤ 1000000000) (g5 : 0 ≤ ch) (g6 : ch ≤ 1000000000) (g7 : 1 ≤ k) (g8 : ¬ (k ≤ 4)) : Calls Try.prog 21 #[.agg #[.int .i64 k, .int .i64 st, .int .i64 ws, .int .i64 wn, .int .i64 ch, .int .i64 key, .int .i64 f, .int .i64 n]] w fun e w' => e = .returned (.bool false) ∧ w.alloc (.cells #[.int .i64 k, .int .i64 st, .int .i64 ws, .int .i64 wn, .int .i64 ch, .int .i64 key, .int .i64 f, .int .i64 n] 27) = w' := by
  have t2 : (st != ws) = true := by rw [bne_iff_ne]; exact g2
  clear g2
  have t3 : decide (0 ≤ wn) = true := decide_eq_true g3
  have t4 : decide (wn ≤ 1000000000) = true := decide_eq_true g4
  have t5 : decide (0 ≤ ch) = true := decide_eq_true g5
  have t6 : decide (ch ≤ 1000000000) = true := decide_eq_true g6
  have t7 : decide (1 ≤ k) = true := decide_eq_true g7
  have t8 : decide (k ≤ 4) = false := decide_eq_false g8
  go_enter Try.func21, Try.ntmps21
  go_wp2_with (go_at_call 24; refine (rid_all _ _).mono ?_; rintro e w' ⟨rfl, rfl⟩)
  all_goals first | (go_ret; exact ⟨by first | rfl | (simp; done), rfl⟩) | (exfalso; omega)
set_option maxHeartbeats 2000000 in
set_option maxRecDepth 100000 in
theorem rformed_9 (k st ws wn ch key f n : Int) (w : World) (g0 : nodeB st = true) (g1 : nodeB ws = true) (g2 : st ≠ ws) (g3 : 0 ≤ wn) (g4 : wn ≤ 1000000000) (g5 : 0 ≤ ch) (g6 : ch ≤ 1000000000) (g7 : 1 ≤ k) (g8 : k ≤ 4) : Calls Try.prog 21 #[.agg #[.int .i64 k, .int .i64 st, .int .i64 ws, .int .i64 wn, .int .i64 ch, .int .i64 key, .int .i64 f, .int .i64 n]] w fun e w' => e = .returned (.bool true) ∧ w.alloc (.cells #[.int .i64 k, .int .i64 st, .int .i64 ws, .int .i64 wn, .int .i64 ch, .int .i64 key, .int .i64 f, .int .i64 n] 27) = w' := by
  have t2 : (st != ws) = true := by rw [bne_iff_ne]; exact g2
  clear g2
  have t3 : decide (0 ≤ wn) = true := decide_eq_true g3
  have t4 : decide (wn ≤ 1000000000) = true := decide_eq_true g4
  have t5 : decide (0 ≤ ch) = true := decide_eq_true g5
  have t6 : decide (ch ≤ 1000000000) = true := decide_eq_true g6
  have t7 : decide (1 ≤ k) = true := decide_eq_true g7
  have t8 : decide (k ≤ 4) = true := decide_eq_true g8
  go_enter Try.func21, Try.ntmps21
  go_wp2_with (go_at_call 24; refine (rid_all _ _).mono ?_; rintro e w' ⟨rfl, rfl⟩)
  all_goals first | (go_ret; exact ⟨by first | rfl | (simp; done), rfl⟩) | (exfalso; omega)
theorem rformed_all (k st ws wn ch key f n : Int) (w : World) : Calls Try.prog 21 #[.agg #[.int .i64 k, .int .i64 st, .int .i64 ws, .int .i64 wn, .int .i64 ch, .int .i64 key, .int .i64 f, .int .i64 n]] w fun e w' => e = .returned (.bool (formedB k st ws wn ch)) ∧ w.alloc (.cells #[.int .i64 k, .int .i64 st, .int .i64 ws, .int .i64 wn, .int .i64 ch, .int .i64 key, .int .i64 f, .int .i64 n] 27) = w' := by
  by_cases g0 : nodeB st = true
  rotate_left
  · have e : formedB k st ws wn ch = false := by unfold formedB; exact decide_eq_false (fun h => g0 h.1)
    rw [e]; exact rformed_0 k st ws wn ch key f n w (by simpa using g0)
  by_cases g1 : nodeB ws = true
  rotate_left
  · have e : formedB k st ws wn ch = false := by unfold formedB; exact decide_eq_false (fun h => g1 h.2.1)
    rw [e]; exact rformed_1 k st ws wn ch key f n w g0 (by simpa using g1)
  by_cases g2 : st ≠ ws
  rotate_left
  · have e : formedB k st ws wn ch = false := by unfold formedB; exact decide_eq_false (fun h => g2 h.2.2.1)
    rw [e]; exact rformed_2 k st ws wn ch key f n w g0 g1 g2
  by_cases g3 : 0 ≤ wn
  rotate_left
  · have e : formedB k st ws wn ch = false := by unfold formedB; exact decide_eq_false (fun h => g3 (by have := h.2.2.2; omega))
    rw [e]; exact rformed_3 k st ws wn ch key f n w g0 g1 g2 g3
  by_cases g4 : wn ≤ 1000000000
  rotate_left
  · have e : formedB k st ws wn ch = false := by unfold formedB; exact decide_eq_false (fun h => g4 (by have := h.2.2.2; omega))
    rw [e]; exact rformed_4 k st ws wn ch key f n w g0 g1 g2 g3 g4
  by_cases g5 : 0 ≤ ch
  rotate_left
  · have e : formedB k st ws wn ch = false := by unfold formedB; exact decide_eq_false (fun h => g5 (by have := h.2.2.2; omega))
    rw [e]; exact rformed_5 k st ws wn ch key f n w g0 g1 g2 g3 g4 g5
  by_cases g6 : ch ≤ 1000000000
  rotate_left
  · have e : formedB k st ws wn ch = false := by unfold formedB; exact decide_eq_false (fun h => g6 (by have := h.2.2.2; omega))
    rw [e]; exact rformed_6 k st ws wn ch key f n w g0 g1 g2 g3 g4 g5 g6
  by_cases g7 : 1 ≤ k
  rotate_left
  · have e : formedB k st ws wn ch = false := by unfold formedB; exact decide_eq_false (fun h => g7 (by have := h.2.2.2; omega))
    rw [e]; exact rformed_7 k st ws wn ch key f n w g0 g1 g2 g3 g4 g5 g6 g7
  by_cases g8 : k ≤ 4
  rotate_left
  · have e : formedB k st ws wn ch = false := by unfold formedB; exact decide_eq_false (fun h => g8 (by have := h.2.2.2; omega))
    rw [e]; exact rformed_8 k st ws wn ch key f n w g0 g1 g2 g3 g4 g5 g6 g7 g8
  have e : formedB k st ws wn ch = true := by unfold formedB; exact decide_eq_true ⟨g0, g1, g2, by omega, by omega, by omega, by omega, by omega, by omega⟩
  rw [e]; exact rformed_9 k st ws wn ch key f n w g0 g1 g2 g3 g4 g5 g6 g7 g8
end Go.Proofs.Yteiiglefbbhinaa
