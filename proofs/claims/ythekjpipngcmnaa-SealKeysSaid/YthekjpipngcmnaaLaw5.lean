/-
  SealKeys: the walks of the law on package seal, for every input: the keys of two slots are the same exactly if both are in one epoch; own keys of two nodes differ, and differ from the keys of slots; none is 0. No condition.
-/
import Derived.Test.YthekjpipngcmnaaSealH
namespace Go.Proofs.Ythekjpipngcmnaa
open Go.RowKit
set_option linter.unusedVariables false
set_option linter.unusedSimpArgs false
set_option maxHeartbeats 1000000 in
set_option maxRecDepth 100000 in
theorem law5_eq_eq (a b x y : Int) (w : World) (a0 : 0 ≤ a) (a1 : a ≤ 1000000000) (b0 : 0 ≤ b) (b1 : b ≤ 1000000000) (hq : a / 2000 = b / 2000) (x0 : 0 ≤ x) (x1 : x < 60) (y0 : 0 ≤ y) (y1 : y < 60) (hr : x = y) : Calls Try.prog 7 #[.int .i64 a, .int .i64 b, .int .i64 x, .int .i64 y] w fun e w' => e = .returned (.bool true) ∧ Below w.heap.size w w' := by
  have q1 : (a / 2000 + 1 == b / 2000 + 1) = true := by rw [hq]; exact beq_self_eq_true _
  have q2 : (a / 2000 == b / 2000) = true := by rw [hq]; exact beq_self_eq_true _
  have q3 : decide (a / 2000 + 1 ≤ b / 2000 + 1) = true := decide_eq_true (by omega)
  have q4 : decide (b < a) = true ∨ decide (b < a) = false := by cases decide (b < a) <;> simp
  have q6 : decide (b / 2000 < a / 2000) = false := decide_eq_false (by omega)
  have q7 : a / 2000 ≤ b / 2000 := by omega
  have q5 : decide (0 < a / 2000 + 1) = true := decide_eq_true (by omega)
  clear hq
  subst hr
  have r3 : decide (0 < 1000000 + x) = true := decide_eq_true (by omega)
  have s1 : (a / 2000 + 1 != 1000000 + x) = true := by rw [bne_iff_ne]; omega
  rcases q4 with q4 | q4
  all_goals
    go_enter Try.func7, Try.ntmps7
    go_wp2_with (fail)
    refine (head_true _).mono ?_
    rintro e w1 ⟨rfl, hb1⟩
    go_wp2_with (fail)
    refine (key_yes _ a0 a1 _).mono ?_
    rintro e w2 ⟨rfl, rfl⟩
    go_wp2_with (fail)
    refine (key_yes _ b0 b1 _).mono ?_
    rintro e w2 ⟨rfl, rfl⟩
    go_wp2_with (fail)
    refine (own_yes _ x0 x1 _).mono ?_
    rintro e w2 ⟨rfl, rfl⟩
    go_wp2_with (fail)
    refine (own_yes _ x0 x1 _).mono ?_
    rintro e w2 ⟨rfl, rfl⟩
    go_wp2_with (fail)
    go_ret
    exact ⟨by first | rfl | simp [*], by assumption⟩
set_option maxHeartbeats 1000000 in
set_option maxRecDepth 100000 in
theorem law5_eq_ne (a b x y : Int) (w : World) (a0 : 0 ≤ a) (a1 : a ≤ 1000000000) (b0 : 0 ≤ b) (b1 : b ≤ 1000000000) (hq : a / 2000 = b / 2000) (x0 : 0 ≤ x) (x1 : x < 60) (y0 : 0 ≤ y) (y1 : y < 60) (hr : x ≠ y) : Calls Try.prog 7 #[.int .i64 a, .int .i64 b, .int .i64 x, .int .i64 y] w fun e w' => e = .returned (.bool true) ∧ Below w.heap.size w w' := by
  have q1 : (a / 2000 + 1 == b / 2000 + 1) = true := by rw [hq]; exact beq_self_eq_true _
  have q2 : (a / 2000 == b / 2000) = true := by rw [hq]; exact beq_self_eq_true _
  have q3 : decide (a / 2000 + 1 ≤ b / 2000 + 1) = true := decide_eq_true (by omega)
  have q4 : decide (b < a) = true ∨ decide (b < a) = false := by cases decide (b < a) <;> simp
  have q6 : decide (b / 2000 < a / 2000) = false := decide_eq_false (by omega)
  have q7 : a / 2000 ≤ b / 2000 := by omega
  have q5 : decide (0 < a / 2000 + 1) = true := decide_eq_true (by omega)
  clear hq
  have r1 : (1000000 + x == 1000000 + y) = false := beq_eq_false_iff_ne.2 (by omega)
  have r2 : (x == y) = false := beq_eq_false_iff_ne.2 hr
  clear hr
  have r3 : decide (0 < 1000000 + x) = true := decide_eq_true (by omega)
  have s1 : (a / 2000 + 1 != 1000000 + x) = true := by rw [bne_iff_ne]; omega
  rcases q4 with q4 | q4
  all_goals
    go_enter Try.func7, Try.ntmps7
    go_wp2_with (fail)
    refine (head_true _).mono ?_
    rintro e w1 ⟨rfl, hb1⟩
    go_wp2_with (fail)
    refine (key_yes _ a0 a1 _).mono ?_
    rintro e w2 ⟨rfl, rfl⟩
    go_wp2_with (fail)
    refine (key_yes _ b0 b1 _).mono ?_
    rintro e w2 ⟨rfl, rfl⟩
    go_wp2_with (fail)
    refine (own_yes _ x0 x1 _).mono ?_
    rintro e w2 ⟨rfl, rfl⟩
    go_wp2_with (fail)
    refine (own_yes _ y0 y1 _).mono ?_
    rintro e w2 ⟨rfl, rfl⟩
    go_wp2_with (fail)
    go_ret
    exact ⟨by first | rfl | simp [*], by assumption⟩
set_option maxHeartbeats 1000000 in
set_option maxRecDepth 100000 in
theorem law5_eq_yn (a b x y : Int) (w : World) (a0 : 0 ≤ a) (a1 : a ≤ 1000000000) (b0 : 0 ≤ b) (b1 : b ≤ 1000000000) (hq : a / 2000 = b / 2000) (x0 : 0 ≤ x) (x1 : x < 60) (hy : y < 0 ∨ 60 ≤ y) : Calls Try.prog 7 #[.int .i64 a, .int .i64 b, .int .i64 x, .int .i64 y] w fun e w' => e = .returned (.bool true) ∧ Below w.heap.size w w' := by
  have q1 : (a / 2000 + 1 == b / 2000 + 1) = true := by rw [hq]; exact beq_self_eq_true _
  have q2 : (a / 2000 == b / 2000) = true := by rw [hq]; exact beq_self_eq_true _
  have q3 : decide (a / 2000 + 1 ≤ b / 2000 + 1) = true := decide_eq_true (by omega)
  have q4 : decide (b < a) = true ∨ decide (b < a) = false := by cases decide (b < a) <;> simp
  have q6 : decide (b / 2000 < a / 2000) = false := decide_eq_false (by omega)
  have q7 : a / 2000 ≤ b / 2000 := by omega
  have q5 : decide (0 < a / 2000 + 1) = true := decide_eq_true (by omega)
  clear hq
  have s1 : (a / 2000 + 1 != 1000000 + x) = true := by rw [bne_iff_ne]; omega
  rcases q4 with q4 | q4
  all_goals
    go_enter Try.func7, Try.ntmps7
    go_wp2_with (fail)
    refine (head_true _).mono ?_
    rintro e w1 ⟨rfl, hb1⟩
    go_wp2_with (fail)
    refine (key_yes _ a0 a1 _).mono ?_
    rintro e w2 ⟨rfl, rfl⟩
    go_wp2_with (fail)
    refine (key_yes _ b0 b1 _).mono ?_
    rintro e w2 ⟨rfl, rfl⟩
    go_wp2_with (fail)
    refine (own_yes _ x0 x1 _).mono ?_
    rintro e w2 ⟨rfl, rfl⟩
    go_wp2_with (fail)
    refine (own_no _ hy _).mono ?_
    rintro e w2 ⟨rfl, rfl⟩
    go_wp2_with (fail)
    go_ret
    exact ⟨by first | rfl | simp [*], by assumption⟩
set_option maxHeartbeats 1000000 in
set_option maxRecDepth 100000 in
theorem law5_eq_no (a b x y : Int) (w : World) (a0 : 0 ≤ a) (a1 : a ≤ 1000000000) (b0 : 0 ≤ b) (b1 : b ≤ 1000000000) (hq : a / 2000 = b / 2000) (hx : x < 0 ∨ 60 ≤ x) : Calls Try.prog 7 #[.int .i64 a, .int .i64 b, .int .i64 x, .int .i64 y] w fun e w' => e = .returned (.bool true) ∧ Below w.heap.size w w' := by
  have q1 : (a / 2000 + 1 == b / 2000 + 1) = true := by rw [hq]; exact beq_self_eq_true _
  have q2 : (a / 2000 == b / 2000) = true := by rw [hq]; exact beq_self_eq_true _
  have q3 : decide (a / 2000 + 1 ≤ b / 2000 + 1) = true := decide_eq_true (by omega)
  have q4 : decide (b < a) = true ∨ decide (b < a) = false := by cases decide (b < a) <;> simp
  have q6 : decide (b / 2000 < a / 2000) = false := decide_eq_false (by omega)
  have q7 : a / 2000 ≤ b / 2000 := by omega
  have q5 : decide (0 < a / 2000 + 1) = true := decide_eq_true (by omega)
  clear hq
  rcases q4 with q4 | q4
  all_goals
    go_enter Try.func7, Try.ntmps7
    go_wp2_with (fail)
    refine (head_true _).mono ?_
    rintro e w1 ⟨rfl, hb1⟩
    go_wp2_with (fail)
    refine (key_yes _ a0 a1 _).mono ?_
    rintro e w2 ⟨rfl, rfl⟩
    go_wp2_with (fail)
    refine (key_yes _ b0 b1 _).mono ?_
    rintro e w2 ⟨rfl, rfl⟩
    go_wp2_with (fail)
    refine (own_no _ hx _).mono ?_
    rintro e w2 ⟨rfl, rfl⟩
    go_wp2_with (fail)
    refine (own_all _ _).mono ?_
    rintro e w2 ⟨rfl, rfl⟩
    go_wp2_with (fail)
    all_goals (go_ret; exact ⟨by simp [*], by assumption⟩)
set_option maxHeartbeats 1000000 in
set_option maxRecDepth 100000 in
theorem law5_lt_eq (a b x y : Int) (w : World) (a0 : 0 ≤ a) (a1 : a ≤ 1000000000) (b0 : 0 ≤ b) (b1 : b ≤ 1000000000) (hq : a / 2000 < b / 2000) (x0 : 0 ≤ x) (x1 : x < 60) (y0 : 0 ≤ y) (y1 : y < 60) (hr : x = y) : Calls Try.prog 7 #[.int .i64 a, .int .i64 b, .int .i64 x, .int .i64 y] w fun e w' => e = .returned (.bool true) ∧ Below w.heap.size w w' := by
  have q1 : (a / 2000 + 1 == b / 2000 + 1) = false := beq_eq_false_iff_ne.2 (by omega)
  have q2 : (a / 2000 == b / 2000) = false := beq_eq_false_iff_ne.2 (by omega)
  have q3 : decide (a / 2000 + 1 ≤ b / 2000 + 1) = true := decide_eq_true (by omega)
  have q4 : decide (b < a) = false := decide_eq_false (by omega)
  have q6 : decide (b / 2000 < a / 2000) = false := decide_eq_false (by omega)
  have q7 : a / 2000 ≤ b / 2000 := by omega
  have q5 : decide (0 < a / 2000 + 1) = true := decide_eq_true (by omega)
  clear hq
  subst hr
  have r3 : decide (0 < 1000000 + x) = true := decide_eq_true (by omega)
  have s1 : (a / 2000 + 1 != 1000000 + x) = true := by rw [bne_iff_ne]; omega
  go_enter Try.func7, Try.ntmps7
  go_wp2_with (fail)
  refine (head_true _).mono ?_
  rintro e w1 ⟨rfl, hb1⟩
  go_wp2_with (fail)
  refine (key_yes _ a0 a1 _).mono ?_
  rintro e w2 ⟨rfl, rfl⟩
  go_wp2_with (fail)
  refine (key_yes _ b0 b1 _).mono ?_
  rintro e w2 ⟨rfl, rfl⟩
  go_wp2_with (fail)
  refine (own_yes _ x0 x1 _).mono ?_
  rintro e w2 ⟨rfl, rfl⟩
  go_wp2_with (fail)
  refine (own_yes _ x0 x1 _).mono ?_
  rintro e w2 ⟨rfl, rfl⟩
  go_wp2_with (fail)
  go_ret
  exact ⟨by first | rfl | simp [*], by assumption⟩
set_option maxHeartbeats 1000000 in
set_option maxRecDepth 100000 in
theorem law5_lt_ne (a b x y : Int) (w : World) (a0 : 0 ≤ a) (a1 : a ≤ 1000000000) (b0 : 0 ≤ b) (b1 : b ≤ 1000000000) (hq : a / 2000 < b / 2000) (x0 : 0 ≤ x) (x1 : x < 60) (y0 : 0 ≤ y) (y1 : y < 60) (hr : x ≠ y) : Calls Try.prog 7 #[.int .i64 a, .int .i64 b, .int .i64 x, .int .i64 y] w fun e w' => e = .returned (.bool true) ∧ Below w.heap.size w w' := by
  have q1 : (a / 2000 + 1 == b / 2000 + 1) = false := beq_eq_false_iff_ne.2 (by omega)
  have q2 : (a / 2000 == b / 2000) = false := beq_eq_false_iff_ne.2 (by omega)
  have q3 : decide (a / 2000 + 1 ≤ b / 2000 + 1) = true := decide_eq_true (by omega)
  have q4 : decide (b < a) = false := decide_eq_false (by omega)
  have q6 : decide (b / 2000 < a / 2000) = false := decide_eq_false (by omega)
  have q7 : a / 2000 ≤ b / 2000 := by omega
  have q5 : decide (0 < a / 2000 + 1) = true := decide_eq_true (by omega)
  clear hq
  have r1 : (1000000 + x == 1000000 + y) = false := beq_eq_false_iff_ne.2 (by omega)
  have r2 : (x == y) = false := beq_eq_false_iff_ne.2 hr
  clear hr
  have r3 : decide (0 < 1000000 + x) = true := decide_eq_true (by omega)
  have s1 : (a / 2000 + 1 != 1000000 + x) = true := by rw [bne_iff_ne]; omega
  go_enter Try.func7, Try.ntmps7
  go_wp2_with (fail)
  refine (head_true _).mono ?_
  rintro e w1 ⟨rfl, hb1⟩
  go_wp2_with (fail)
  refine (key_yes _ a0 a1 _).mono ?_
  rintro e w2 ⟨rfl, rfl⟩
  go_wp2_with (fail)
  refine (key_yes _ b0 b1 _).mono ?_
  rintro e w2 ⟨rfl, rfl⟩
  go_wp2_with (fail)
  refine (own_yes _ x0 x1 _).mono ?_
  rintro e w2 ⟨rfl, rfl⟩
  go_wp2_with (fail)
  refine (own_yes _ y0 y1 _).mono ?_
  rintro e w2 ⟨rfl, rfl⟩
  go_wp2_with (fail)
  go_ret
  exact ⟨by first | rfl | simp [*], by assumption⟩
set_option maxHeartbeats 1000000 in
set_option maxRecDepth 100000 in
theorem law5_lt_yn (a b x y : Int) (w : World) (a0 : 0 ≤ a) (a1 : a ≤ 1000000000) (b0 : 0 ≤ b) (b1 : b ≤ 1000000000) (hq : a / 2000 < b / 2000) (x0 : 0 ≤ x) (x1 : x < 60) (hy : y < 0 ∨ 60 ≤ y) : Calls Try.prog 7 #[.int .i64 a, .int .i64 b, .int .i64 x, .int .i64 y] w fun e w' => e = .returned (.bool true) ∧ Below w.heap.size w w' := by
  have q1 : (a / 2000 + 1 == b / 2000 + 1) = false := beq_eq_false_iff_ne.2 (by omega)
  have q2 : (a / 2000 == b / 2000) = false := beq_eq_false_iff_ne.2 (by omega)
  have q3 : decide (a / 2000 + 1 ≤ b / 2000 + 1) = true := decide_eq_true (by omega)
  have q4 : decide (b < a) = false := decide_eq_false (by omega)
  have q6 : decide (b / 2000 < a / 2000) = false := decide_eq_false (by omega)
  have q7 : a / 2000 ≤ b / 2000 := by omega
  have q5 : decide (0 < a / 2000 + 1) = true := decide_eq_true (by omega)
  clear hq
  have s1 : (a / 2000 + 1 != 1000000 + x) = true := by rw [bne_iff_ne]; omega
  go_enter Try.func7, Try.ntmps7
  go_wp2_with (fail)
  refine (head_true _).mono ?_
  rintro e w1 ⟨rfl, hb1⟩
  go_wp2_with (fail)
  refine (key_yes _ a0 a1 _).mono ?_
  rintro e w2 ⟨rfl, rfl⟩
  go_wp2_with (fail)
  refine (key_yes _ b0 b1 _).mono ?_
  rintro e w2 ⟨rfl, rfl⟩
  go_wp2_with (fail)
  refine (own_yes _ x0 x1 _).mono ?_
  rintro e w2 ⟨rfl, rfl⟩
  go_wp2_with (fail)
  refine (own_no _ hy _).mono ?_
  rintro e w2 ⟨rfl, rfl⟩
  go_wp2_with (fail)
  go_ret
  exact ⟨by first | rfl | simp [*], by assumption⟩
set_option maxHeartbeats 1000000 in
set_option maxRecDepth 100000 in
theorem law5_lt_no (a b x y : Int) (w : World) (a0 : 0 ≤ a) (a1 : a ≤ 1000000000) (b0 : 0 ≤ b) (b1 : b ≤ 1000000000) (hq : a / 2000 < b / 2000) (hx : x < 0 ∨ 60 ≤ x) : Calls Try.prog 7 #[.int .i64 a, .int .i64 b, .int .i64 x, .int .i64 y] w fun e w' => e = .returned (.bool true) ∧ Below w.heap.size w w' := by
  have q1 : (a / 2000 + 1 == b / 2000 + 1) = false := beq_eq_false_iff_ne.2 (by omega)
  have q2 : (a / 2000 == b / 2000) = false := beq_eq_false_iff_ne.2 (by omega)
  have q3 : decide (a / 2000 + 1 ≤ b / 2000 + 1) = true := decide_eq_true (by omega)
  have q4 : decide (b < a) = false := decide_eq_false (by omega)
  have q6 : decide (b / 2000 < a / 2000) = false := decide_eq_false (by omega)
  have q7 : a / 2000 ≤ b / 2000 := by omega
  have q5 : decide (0 < a / 2000 + 1) = true := decide_eq_true (by omega)
  clear hq
  go_enter Try.func7, Try.ntmps7
  go_wp2_with (fail)
  refine (head_true _).mono ?_
  rintro e w1 ⟨rfl, hb1⟩
  go_wp2_with (fail)
  refine (key_yes _ a0 a1 _).mono ?_
  rintro e w2 ⟨rfl, rfl⟩
  go_wp2_with (fail)
  refine (key_yes _ b0 b1 _).mono ?_
  rintro e w2 ⟨rfl, rfl⟩
  go_wp2_with (fail)
  refine (own_no _ hx _).mono ?_
  rintro e w2 ⟨rfl, rfl⟩
  go_wp2_with (fail)
  refine (own_all _ _).mono ?_
  rintro e w2 ⟨rfl, rfl⟩
  go_wp2_with (fail)
  all_goals (go_ret; exact ⟨by simp [*], by assumption⟩)
set_option maxHeartbeats 1000000 in
set_option maxRecDepth 100000 in
theorem law5_gt_eq (a b x y : Int) (w : World) (a0 : 0 ≤ a) (a1 : a ≤ 1000000000) (b0 : 0 ≤ b) (b1 : b ≤ 1000000000) (hq : b / 2000 < a / 2000) (x0 : 0 ≤ x) (x1 : x < 60) (y0 : 0 ≤ y) (y1 : y < 60) (hr : x = y) : Calls Try.prog 7 #[.int .i64 a, .int .i64 b, .int .i64 x, .int .i64 y] w fun e w' => e = .returned (.bool true) ∧ Below w.heap.size w w' := by
  have q1 : (a / 2000 + 1 == b / 2000 + 1) = false := beq_eq_false_iff_ne.2 (by omega)
  have q2 : (a / 2000 == b / 2000) = false := beq_eq_false_iff_ne.2 (by omega)
  have q4 : decide (b < a) = true := decide_eq_true (by omega)
  have q5 : decide (0 < a / 2000 + 1) = true := decide_eq_true (by omega)
  clear hq
  subst hr
  have r3 : decide (0 < 1000000 + x) = true := decide_eq_true (by omega)
  have s1 : (a / 2000 + 1 != 1000000 + x) = true := by rw [bne_iff_ne]; omega
  go_enter Try.func7, Try.ntmps7
  go_wp2_with (fail)
  refine (head_true _).mono ?_
  rintro e w1 ⟨rfl, hb1⟩
  go_wp2_with (fail)
  refine (key_yes _ a0 a1 _).mono ?_
  rintro e w2 ⟨rfl, rfl⟩
  go_wp2_with (fail)
  refine (key_yes _ b0 b1 _).mono ?_
  rintro e w2 ⟨rfl, rfl⟩
  go_wp2_with (fail)
  refine (own_yes _ x0 x1 _).mono ?_
  rintro e w2 ⟨rfl, rfl⟩
  go_wp2_with (fail)
  refine (own_yes _ x0 x1 _).mono ?_
  rintro e w2 ⟨rfl, rfl⟩
  go_wp2_with (fail)
  go_ret
  exact ⟨by first | rfl | simp [*], by assumption⟩
set_option maxHeartbeats 1000000 in
set_option maxRecDepth 100000 in
theorem law5_gt_ne (a b x y : Int) (w : World) (a0 : 0 ≤ a) (a1 : a ≤ 1000000000) (b0 : 0 ≤ b) (b1 : b ≤ 1000000000) (hq : b / 2000 < a / 2000) (x0 : 0 ≤ x) (x1 : x < 60) (y0 : 0 ≤ y) (y1 : y < 60) (hr : x ≠ y) : Calls Try.prog 7 #[.int .i64 a, .int .i64 b, .int .i64 x, .int .i64 y] w fun e w' => e = .returned (.bool true) ∧ Below w.heap.size w w' := by
  have q1 : (a / 2000 + 1 == b / 2000 + 1) = false := beq_eq_false_iff_ne.2 (by omega)
  have q2 : (a / 2000 == b / 2000) = false := beq_eq_false_iff_ne.2 (by omega)
  have q4 : decide (b < a) = true := decide_eq_true (by omega)
  have q5 : decide (0 < a / 2000 + 1) = true := decide_eq_true (by omega)
  clear hq
  have r1 : (1000000 + x == 1000000 + y) = false := beq_eq_false_iff_ne.2 (by omega)
  have r2 : (x == y) = false := beq_eq_false_iff_ne.2 hr
  clear hr
  have r3 : decide (0 < 1000000 + x) = true := decide_eq_true (by omega)
  have s1 : (a / 2000 + 1 != 1000000 + x) = true := by rw [bne_iff_ne]; omega
  go_enter Try.func7, Try.ntmps7
  go_wp2_with (fail)
  refine (head_true _).mono ?_
  rintro e w1 ⟨rfl, hb1⟩
  go_wp2_with (fail)
  refine (key_yes _ a0 a1 _).mono ?_
  rintro e w2 ⟨rfl, rfl⟩
  go_wp2_with (fail)
  refine (key_yes _ b0 b1 _).mono ?_
  rintro e w2 ⟨rfl, rfl⟩
  go_wp2_with (fail)
  refine (own_yes _ x0 x1 _).mono ?_
  rintro e w2 ⟨rfl, rfl⟩
  go_wp2_with (fail)
  refine (own_yes _ y0 y1 _).mono ?_
  rintro e w2 ⟨rfl, rfl⟩
  go_wp2_with (fail)
  go_ret
  exact ⟨by first | rfl | simp [*], by assumption⟩
set_option maxHeartbeats 1000000 in
set_option maxRecDepth 100000 in
theorem law5_gt_yn (a b x y : Int) (w : World) (a0 : 0 ≤ a) (a1 : a ≤ 1000000000) (b0 : 0 ≤ b) (b1 : b ≤ 1000000000) (hq : b / 2000 < a / 2000) (x0 : 0 ≤ x) (x1 : x < 60) (hy : y < 0 ∨ 60 ≤ y) : Calls Try.prog 7 #[.int .i64 a, .int .i64 b, .int .i64 x, .int .i64 y] w fun e w' => e = .returned (.bool true) ∧ Below w.heap.size w w' := by
  have q1 : (a / 2000 + 1 == b / 2000 + 1) = false := beq_eq_false_iff_ne.2 (by omega)
  have q2 : (a / 2000 == b / 2000) = false := beq_eq_false_iff_ne.2 (by omega)
  have q4 : decide (b < a) = true := decide_eq_true (by omega)
  have q5 : decide (0 < a / 2000 + 1) = true := decide_eq_true (by omega)
  clear hq
  have s1 : (a / 2000 + 1 != 1000000 + x) = true := by rw [bne_iff_ne]; omega
  go_enter Try.func7, Try.ntmps7
  go_wp2_with (fail)
  refine (head_true _).mono ?_
  rintro e w1 ⟨rfl, hb1⟩
  go_wp2_with (fail)
  refine (key_yes _ a0 a1 _).mono ?_
  rintro e w2 ⟨rfl, rfl⟩
  go_wp2_with (fail)
  refine (key_yes _ b0 b1 _).mono ?_
  rintro e w2 ⟨rfl, rfl⟩
  go_wp2_with (fail)
  refine (own_yes _ x0 x1 _).mono ?_
  rintro e w2 ⟨rfl, rfl⟩
  go_wp2_with (fail)
  refine (own_no _ hy _).mono ?_
  rintro e w2 ⟨rfl, rfl⟩
  go_wp2_with (fail)
  go_ret
  exact ⟨by first | rfl | simp [*], by assumption⟩
set_option maxHeartbeats 1000000 in
set_option maxRecDepth 100000 in
theorem law5_gt_no (a b x y : Int) (w : World) (a0 : 0 ≤ a) (a1 : a ≤ 1000000000) (b0 : 0 ≤ b) (b1 : b ≤ 1000000000) (hq : b / 2000 < a / 2000) (hx : x < 0 ∨ 60 ≤ x) : Calls Try.prog 7 #[.int .i64 a, .int .i64 b, .int .i64 x, .int .i64 y] w fun e w' => e = .returned (.bool true) ∧ Below w.heap.size w w' := by
  have q1 : (a / 2000 + 1 == b / 2000 + 1) = false := beq_eq_false_iff_ne.2 (by omega)
  have q2 : (a / 2000 == b / 2000) = false := beq_eq_false_iff_ne.2 (by omega)
  have q4 : decide (b < a) = true := decide_eq_true (by omega)
  have q5 : decide (0 < a / 2000 + 1) = true := decide_eq_true (by omega)
  clear hq
  go_enter Try.func7, Try.ntmps7
  go_wp2_with (fail)
  refine (head_true _).mono ?_
  rintro e w1 ⟨rfl, hb1⟩
  go_wp2_with (fail)
  refine (key_yes _ a0 a1 _).mono ?_
  rintro e w2 ⟨rfl, rfl⟩
  go_wp2_with (fail)
  refine (key_yes _ b0 b1 _).mono ?_
  rintro e w2 ⟨rfl, rfl⟩
  go_wp2_with (fail)
  refine (own_no _ hx _).mono ?_
  rintro e w2 ⟨rfl, rfl⟩
  go_wp2_with (fail)
  refine (own_all _ _).mono ?_
  rintro e w2 ⟨rfl, rfl⟩
  go_wp2_with (fail)
  all_goals (go_ret; exact ⟨by simp [*], by assumption⟩)
set_option maxHeartbeats 1000000 in
set_option maxRecDepth 100000 in
theorem law5_yn_eq (a b x y : Int) (w : World) (a0 : 0 ≤ a) (a1 : a ≤ 1000000000) (hb : b < 0 ∨ 1000000000 < b) (x0 : 0 ≤ x) (x1 : x < 60) (y0 : 0 ≤ y) (y1 : y < 60) (hr : x = y) : Calls Try.prog 7 #[.int .i64 a, .int .i64 b, .int .i64 x, .int .i64 y] w fun e w' => e = .returned (.bool true) ∧ Below w.heap.size w w' := by
  subst hr
  have r3 : decide (0 < 1000000 + x) = true := decide_eq_true (by omega)
  have s1 : (a / 2000 + 1 != 1000000 + x) = true := by rw [bne_iff_ne]; omega
  go_enter Try.func7, Try.ntmps7
  go_wp2_with (fail)
  refine (head_true _).mono ?_
  rintro e w1 ⟨rfl, hb1⟩
  go_wp2_with (fail)
  refine (key_yes _ a0 a1 _).mono ?_
  rintro e w2 ⟨rfl, rfl⟩
  go_wp2_with (fail)
  refine (key_no _ hb _).mono ?_
  rintro e w2 ⟨rfl, rfl⟩
  go_wp2_with (fail)
  refine (own_yes _ x0 x1 _).mono ?_
  rintro e w2 ⟨rfl, rfl⟩
  go_wp2_with (fail)
  refine (own_yes _ x0 x1 _).mono ?_
  rintro e w2 ⟨rfl, rfl⟩
  go_wp2_with (fail)
  go_ret
  exact ⟨by first | rfl | simp [*], by assumption⟩
set_option maxHeartbeats 1000000 in
set_option maxRecDepth 100000 in
theorem law5_yn_ne (a b x y : Int) (w : World) (a0 : 0 ≤ a) (a1 : a ≤ 1000000000) (hb : b < 0 ∨ 1000000000 < b) (x0 : 0 ≤ x) (x1 : x < 60) (y0 : 0 ≤ y) (y1 : y < 60) (hr : x ≠ y) : Calls Try.prog 7 #[.int .i64 a, .int .i64 b, .int .i64 x, .int .i64 y] w fun e w' => e = .returned (.bool true) ∧ Below w.heap.size w w' := by
  have r1 : (1000000 + x == 1000000 + y) = false := beq_eq_false_iff_ne.2 (by omega)
  have r2 : (x == y) = false := beq_eq_false_iff_ne.2 hr
  clear hr
  have r3 : decide (0 < 1000000 + x) = true := decide_eq_true (by omega)
  have s1 : (a / 2000 + 1 != 1000000 + x) = true := by rw [bne_iff_ne]; omega
  go_enter Try.func7, Try.ntmps7
  go_wp2_with (fail)
  refine (head_true _).mono ?_
  rintro e w1 ⟨rfl, hb1⟩
  go_wp2_with (fail)
  refine (key_yes _ a0 a1 _).mono ?_
  rintro e w2 ⟨rfl, rfl⟩
  go_wp2_with (fail)
  refine (key_no _ hb _).mono ?_
  rintro e w2 ⟨rfl, rfl⟩
  go_wp2_with (fail)
  refine (own_yes _ x0 x1 _).mono ?_
  rintro e w2 ⟨rfl, rfl⟩
  go_wp2_with (fail)
  refine (own_yes _ y0 y1 _).mono ?_
  rintro e w2 ⟨rfl, rfl⟩
  go_wp2_with (fail)
  go_ret
  exact ⟨by first | rfl | simp [*], by assumption⟩
set_option maxHeartbeats 1000000 in
set_option maxRecDepth 100000 in
theorem law5_yn_yn (a b x y : Int) (w : World) (a0 : 0 ≤ a) (a1 : a ≤ 1000000000) (hb : b < 0 ∨ 1000000000 < b) (x0 : 0 ≤ x) (x1 : x < 60) (hy : y < 0 ∨ 60 ≤ y) : Calls Try.prog 7 #[.int .i64 a, .int .i64 b, .int .i64 x, .int .i64 y] w fun e w' => e = .returned (.bool true) ∧ Below w.heap.size w w' := by
  have s1 : (a / 2000 + 1 != 1000000 + x) = true := by rw [bne_iff_ne]; omega
  go_enter Try.func7, Try.ntmps7
  go_wp2_with (fail)
  refine (head_true _).mono ?_
  rintro e w1 ⟨rfl, hb1⟩
  go_wp2_with (fail)
  refine (key_yes _ a0 a1 _).mono ?_
  rintro e w2 ⟨rfl, rfl⟩
  go_wp2_with (fail)
  refine (key_no _ hb _).mono ?_
  rintro e w2 ⟨rfl, rfl⟩
  go_wp2_with (fail)
  refine (own_yes _ x0 x1 _).mono ?_
  rintro e w2 ⟨rfl, rfl⟩
  go_wp2_with (fail)
  refine (own_no _ hy _).mono ?_
  rintro e w2 ⟨rfl, rfl⟩
  go_wp2_with (fail)
  go_ret
  exact ⟨by first | rfl | simp [*], by assumption⟩
set_option maxHeartbeats 1000000 in
set_option maxRecDepth 100000 in
theorem law5_yn_no (a b x y : Int) (w : World) (a0 : 0 ≤ a) (a1 : a ≤ 1000000000) (hb : b < 0 ∨ 1000000000 < b) (hx : x < 0 ∨ 60 ≤ x) : Calls Try.prog 7 #[.int .i64 a, .int .i64 b, .int .i64 x, .int .i64 y] w fun e w' => e = .returned (.bool true) ∧ Below w.heap.size w w' := by
  go_enter Try.func7, Try.ntmps7
  go_wp2_with (fail)
  refine (head_true _).mono ?_
  rintro e w1 ⟨rfl, hb1⟩
  go_wp2_with (fail)
  refine (key_yes _ a0 a1 _).mono ?_
  rintro e w2 ⟨rfl, rfl⟩
  go_wp2_with (fail)
  refine (key_no _ hb _).mono ?_
  rintro e w2 ⟨rfl, rfl⟩
  go_wp2_with (fail)
  refine (own_no _ hx _).mono ?_
  rintro e w2 ⟨rfl, rfl⟩
  go_wp2_with (fail)
  refine (own_all _ _).mono ?_
  rintro e w2 ⟨rfl, rfl⟩
  go_wp2_with (fail)
  all_goals (go_ret; exact ⟨by simp [*], by assumption⟩)
set_option maxHeartbeats 1000000 in
set_option maxRecDepth 100000 in
theorem law5_no_eq (a b x y : Int) (w : World) (ha : a < 0 ∨ 1000000000 < a) (x0 : 0 ≤ x) (x1 : x < 60) (y0 : 0 ≤ y) (y1 : y < 60) (hr : x = y) : Calls Try.prog 7 #[.int .i64 a, .int .i64 b, .int .i64 x, .int .i64 y] w fun e w' => e = .returned (.bool true) ∧ Below w.heap.size w w' := by
  subst hr
  have r3 : decide (0 < 1000000 + x) = true := decide_eq_true (by omega)
  go_enter Try.func7, Try.ntmps7
  go_wp2_with (fail)
  refine (head_true _).mono ?_
  rintro e w1 ⟨rfl, hb1⟩
  go_wp2_with (fail)
  refine (key_no _ ha _).mono ?_
  rintro e w2 ⟨rfl, rfl⟩
  go_wp2_with (fail)
  refine (key_all _ _).mono ?_
  rintro e w2 ⟨rfl, rfl⟩
  go_wp2_with (fail)
  refine (own_yes _ x0 x1 _).mono ?_
  rintro e w2 ⟨rfl, rfl⟩
  go_wp2_with (fail)
  refine (own_yes _ x0 x1 _).mono ?_
  rintro e w2 ⟨rfl, rfl⟩
  go_wp2_with (fail)
  all_goals (go_ret; exact ⟨by simp [*], by assumption⟩)
set_option maxHeartbeats 1000000 in
set_option maxRecDepth 100000 in
theorem law5_no_ne (a b x y : Int) (w : World) (ha : a < 0 ∨ 1000000000 < a) (x0 : 0 ≤ x) (x1 : x < 60) (y0 : 0 ≤ y) (y1 : y < 60) (hr : x ≠ y) : Calls Try.prog 7 #[.int .i64 a, .int .i64 b, .int .i64 x, .int .i64 y] w fun e w' => e = .returned (.bool true) ∧ Below w.heap.size w w' := by
  have r1 : (1000000 + x == 1000000 + y) = false := beq_eq_false_iff_ne.2 (by omega)
  have r2 : (x == y) = false := beq_eq_false_iff_ne.2 hr
  clear hr
  have r3 : decide (0 < 1000000 + x) = true := decide_eq_true (by omega)
  go_enter Try.func7, Try.ntmps7
  go_wp2_with (fail)
  refine (head_true _).mono ?_
  rintro e w1 ⟨rfl, hb1⟩
  go_wp2_with (fail)
  refine (key_no _ ha _).mono ?_
  rintro e w2 ⟨rfl, rfl⟩
  go_wp2_with (fail)
  refine (key_all _ _).mono ?_
  rintro e w2 ⟨rfl, rfl⟩
  go_wp2_with (fail)
  refine (own_yes _ x0 x1 _).mono ?_
  rintro e w2 ⟨rfl, rfl⟩
  go_wp2_with (fail)
  refine (own_yes _ y0 y1 _).mono ?_
  rintro e w2 ⟨rfl, rfl⟩
  go_wp2_with (fail)
  all_goals (go_ret; exact ⟨by simp [*], by assumption⟩)
set_option maxHeartbeats 1000000 in
set_option maxRecDepth 100000 in
theorem law5_no_yn (a b x y : Int) (w : World) (ha : a < 0 ∨ 1000000000 < a) (x0 : 0 ≤ x) (x1 : x < 60) (hy : y < 0 ∨ 60 ≤ y) : Calls Try.prog 7 #[.int .i64 a, .int .i64 b, .int .i64 x, .int .i64 y] w fun e w' => e = .returned (.bool true) ∧ Below w.heap.size w w' := by
  go_enter Try.func7, Try.ntmps7
  go_wp2_with (fail)
  refine (head_true _).mono ?_
  rintro e w1 ⟨rfl, hb1⟩
  go_wp2_with (fail)
  refine (key_no _ ha _).mono ?_
  rintro e w2 ⟨rfl, rfl⟩
  go_wp2_with (fail)
  refine (key_all _ _).mono ?_
  rintro e w2 ⟨rfl, rfl⟩
  go_wp2_with (fail)
  refine (own_yes _ x0 x1 _).mono ?_
  rintro e w2 ⟨rfl, rfl⟩
  go_wp2_with (fail)
  refine (own_no _ hy _).mono ?_
  rintro e w2 ⟨rfl, rfl⟩
  go_wp2_with (fail)
  all_goals (go_ret; exact ⟨by simp [*], by assumption⟩)
set_option maxHeartbeats 1000000 in
set_option maxRecDepth 100000 in
theorem law5_no_no (a b x y : Int) (w : World) (ha : a < 0 ∨ 1000000000 < a) (hx : x < 0 ∨ 60 ≤ x) : Calls Try.prog 7 #[.int .i64 a, .int .i64 b, .int .i64 x, .int .i64 y] w fun e w' => e = .returned (.bool true) ∧ Below w.heap.size w w' := by
  go_enter Try.func7, Try.ntmps7
  go_wp2_with (fail)
  refine (head_true _).mono ?_
  rintro e w1 ⟨rfl, hb1⟩
  go_wp2_with (fail)
  refine (key_no _ ha _).mono ?_
  rintro e w2 ⟨rfl, rfl⟩
  go_wp2_with (fail)
  refine (key_all _ _).mono ?_
  rintro e w2 ⟨rfl, rfl⟩
  go_wp2_with (fail)
  refine (own_no _ hx _).mono ?_
  rintro e w2 ⟨rfl, rfl⟩
  go_wp2_with (fail)
  refine (own_all _ _).mono ?_
  rintro e w2 ⟨rfl, rfl⟩
  go_wp2_with (fail)
  all_goals (go_ret; exact ⟨by simp [*], by assumption⟩)
theorem law5_all (a b x y : Int) (w : World) : Calls Try.prog 7 #[.int .i64 a, .int .i64 b, .int .i64 x, .int .i64 y] w fun e w' => e = .returned (.bool true) ∧ Below w.heap.size w w' := by
  by_cases ha : 0 ≤ a ∧ a ≤ 1000000000
  · by_cases hb : 0 ≤ b ∧ b ≤ 1000000000
    · by_cases he : a / 2000 = b / 2000
      · by_cases hx : 0 ≤ x ∧ x < 60
        · by_cases hy : 0 ≤ y ∧ y < 60
          · by_cases hr : x = y
            · exact law5_eq_eq a b x y w ha.1 ha.2 hb.1 hb.2 (by omega) hx.1 hx.2 hy.1 hy.2 hr
            · exact law5_eq_ne a b x y w ha.1 ha.2 hb.1 hb.2 (by omega) hx.1 hx.2 hy.1 hy.2 hr
          · exact law5_eq_yn a b x y w ha.1 ha.2 hb.1 hb.2 (by omega) hx.1 hx.2 (by omega)
        · exact law5_eq_no a b x y w ha.1 ha.2 hb.1 hb.2 (by omega) (by omega)
      by_cases hl : a / 2000 < b / 2000
      · by_cases hx : 0 ≤ x ∧ x < 60
        · by_cases hy : 0 ≤ y ∧ y < 60
          · by_cases hr : x = y
            · exact law5_lt_eq a b x y w ha.1 ha.2 hb.1 hb.2 (by omega) hx.1 hx.2 hy.1 hy.2 hr
            · exact law5_lt_ne a b x y w ha.1 ha.2 hb.1 hb.2 (by omega) hx.1 hx.2 hy.1 hy.2 hr
          · exact law5_lt_yn a b x y w ha.1 ha.2 hb.1 hb.2 (by omega) hx.1 hx.2 (by omega)
        · exact law5_lt_no a b x y w ha.1 ha.2 hb.1 hb.2 (by omega) (by omega)
      · by_cases hx : 0 ≤ x ∧ x < 60
        · by_cases hy : 0 ≤ y ∧ y < 60
          · by_cases hr : x = y
            · exact law5_gt_eq a b x y w ha.1 ha.2 hb.1 hb.2 (by omega) hx.1 hx.2 hy.1 hy.2 hr
            · exact law5_gt_ne a b x y w ha.1 ha.2 hb.1 hb.2 (by omega) hx.1 hx.2 hy.1 hy.2 hr
          · exact law5_gt_yn a b x y w ha.1 ha.2 hb.1 hb.2 (by omega) hx.1 hx.2 (by omega)
        · exact law5_gt_no a b x y w ha.1 ha.2 hb.1 hb.2 (by omega) (by omega)
    · by_cases hx : 0 ≤ x ∧ x < 60
      · by_cases hy : 0 ≤ y ∧ y < 60
        · by_cases hr : x = y
          · exact law5_yn_eq a b x y w ha.1 ha.2 (by omega) hx.1 hx.2 hy.1 hy.2 hr
          · exact law5_yn_ne a b x y w ha.1 ha.2 (by omega) hx.1 hx.2 hy.1 hy.2 hr
        · exact law5_yn_yn a b x y w ha.1 ha.2 (by omega) hx.1 hx.2 (by omega)
      · exact law5_yn_no a b x y w ha.1 ha.2 (by omega) (by omega)
  · by_cases hx : 0 ≤ x ∧ x < 60
    · by_cases hy : 0 ≤ y ∧ y < 60
      · by_cases hr : x = y
        · exact law5_no_eq a b x y w (by omega) hx.1 hx.2 hy.1 hy.2 hr
        · exact law5_no_ne a b x y w (by omega) hx.1 hx.2 hy.1 hy.2 hr
      · exact law5_no_yn a b x y w (by omega) hx.1 hx.2 (by omega)
    · exact law5_no_no a b x y w (by omega) (by omega)
end Go.Proofs.Ythekjpipngcmnaa
