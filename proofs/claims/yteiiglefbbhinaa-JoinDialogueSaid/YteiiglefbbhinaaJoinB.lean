/-
  A state's valid, read behind a pointer.
-/
import Derived.Test.YteiiglefbbhinaaJoinA
namespace Go.Proofs.Yteiiglefbbhinaa
open Go.RowKit
set_option linter.unusedVariables false
set_option linter.unusedSimpArgs false
set_option maxHeartbeats 2000000 in
set_option maxRecDepth 100000 in
theorem valid_0 (B : Nat) (ph sp no si tr : Int) (w : World) (c0 : w.cell? ⟨B, 0, none⟩ = some (.int .i64 ph)) (c1 : w.cell? ⟨B, 1, none⟩ = some (.int .i64 sp)) (c2 : w.cell? ⟨B, 2, none⟩ = some (.int .i64 no)) (c3 : w.cell? ⟨B, 3, none⟩ = some (.int .i64 si)) (c4 : w.cell? ⟨B, 4, none⟩ = some (.int .i64 tr))  (g0 : ¬ 0 ≤ ph) : Calls Try.prog 22 #[.pointer (some ⟨B, 0, none⟩)] w fun e w' => e = .returned (.bool false) ∧ w = w' := by
  have t0 : decide (0 ≤ ph) = false := decide_eq_false g0
  go_enter Try.func22, Try.ntmps22
  go_wp2
  go_ret
  exact ⟨rfl, rfl⟩
set_option maxHeartbeats 2000000 in
set_option maxRecDepth 100000 in
theorem valid_1 (B : Nat) (ph sp no si tr : Int) (w : World) (c0 : w.cell? ⟨B, 0, none⟩ = some (.int .i64 ph)) (c1 : w.cell? ⟨B, 1, none⟩ = some (.int .i64 sp)) (c2 : w.cell? ⟨B, 2, none⟩ = some (.int .i64 no)) (c3 : w.cell? ⟨B, 3, none⟩ = some (.int .i64 si)) (c4 : w.cell? ⟨B, 4, none⟩ = some (.int .i64 tr)) (g0 : 0 ≤ ph) (g1 : ¬ ph ≤ 3) : Calls Try.prog 22 #[.pointer (some ⟨B, 0, none⟩)] w fun e w' => e = .returned (.bool false) ∧ w = w' := by
  have t0 : decide (0 ≤ ph) = true := decide_eq_true g0
  have t1 : decide (ph ≤ 3) = false := decide_eq_false g1
  go_enter Try.func22, Try.ntmps22
  go_wp2
  go_ret
  exact ⟨rfl, rfl⟩
set_option maxHeartbeats 2000000 in
set_option maxRecDepth 100000 in
theorem valid_2 (B : Nat) (ph sp no si tr : Int) (w : World) (c0 : w.cell? ⟨B, 0, none⟩ = some (.int .i64 ph)) (c1 : w.cell? ⟨B, 1, none⟩ = some (.int .i64 sp)) (c2 : w.cell? ⟨B, 2, none⟩ = some (.int .i64 no)) (c3 : w.cell? ⟨B, 3, none⟩ = some (.int .i64 si)) (c4 : w.cell? ⟨B, 4, none⟩ = some (.int .i64 tr)) (g0 : 0 ≤ ph) (g1 : ph ≤ 3) (g2 : ¬ 0 ≤ tr) : Calls Try.prog 22 #[.pointer (some ⟨B, 0, none⟩)] w fun e w' => e = .returned (.bool false) ∧ w = w' := by
  have t0 : decide (0 ≤ ph) = true := decide_eq_true g0
  have t1 : decide (ph ≤ 3) = true := decide_eq_true g1
  have t2 : decide (0 ≤ tr) = false := decide_eq_false g2
  go_enter Try.func22, Try.ntmps22
  go_wp2
  go_ret
  exact ⟨rfl, rfl⟩
set_option maxHeartbeats 2000000 in
set_option maxRecDepth 100000 in
theorem valid_3 (B : Nat) (ph sp no si tr : Int) (w : World) (c0 : w.cell? ⟨B, 0, none⟩ = some (.int .i64 ph)) (c1 : w.cell? ⟨B, 1, none⟩ = some (.int .i64 sp)) (c2 : w.cell? ⟨B, 2, none⟩ = some (.int .i64 no)) (c3 : w.cell? ⟨B, 3, none⟩ = some (.int .i64 si)) (c4 : w.cell? ⟨B, 4, none⟩ = some (.int .i64 tr)) (g0 : 0 ≤ ph) (g1 : ph ≤ 3) (g2 : 0 ≤ tr) (g3 : ¬ tr ≤ 255) : Calls Try.prog 22 #[.pointer (some ⟨B, 0, none⟩)] w fun e w' => e = .returned (.bool false) ∧ w = w' := by
  have t0 : decide (0 ≤ ph) = true := decide_eq_true g0
  have t1 : decide (ph ≤ 3) = true := decide_eq_true g1
  have t2 : decide (0 ≤ tr) = true := decide_eq_true g2
  have t3 : decide (tr ≤ 255) = false := decide_eq_false g3
  go_enter Try.func22, Try.ntmps22
  go_wp2
  go_ret
  exact ⟨rfl, rfl⟩
set_option maxHeartbeats 2000000 in
set_option maxRecDepth 100000 in
theorem valid_4 (B : Nat) (ph sp no si tr : Int) (w : World) (c0 : w.cell? ⟨B, 0, none⟩ = some (.int .i64 ph)) (c1 : w.cell? ⟨B, 1, none⟩ = some (.int .i64 sp)) (c2 : w.cell? ⟨B, 2, none⟩ = some (.int .i64 no)) (c3 : w.cell? ⟨B, 3, none⟩ = some (.int .i64 si)) (c4 : w.cell? ⟨B, 4, none⟩ = some (.int .i64 tr)) (g0 : 0 ≤ ph) (g1 : ph ≤ 3) (g2 : 0 ≤ tr) (g3 : tr ≤ 255) (g4 : ¬ 0 ≤ si) : Calls Try.prog 22 #[.pointer (some ⟨B, 0, none⟩)] w fun e w' => e = .returned (.bool false) ∧ w = w' := by
  have t0 : decide (0 ≤ ph) = true := decide_eq_true g0
  have t1 : decide (ph ≤ 3) = true := decide_eq_true g1
  have t2 : decide (0 ≤ tr) = true := decide_eq_true g2
  have t3 : decide (tr ≤ 255) = true := decide_eq_true g3
  have t4 : decide (0 ≤ si) = false := decide_eq_false g4
  go_enter Try.func22, Try.ntmps22
  go_wp2
  go_ret
  exact ⟨rfl, rfl⟩
set_option maxHeartbeats 2000000 in
set_option maxRecDepth 100000 in
theorem valid_5 (B : Nat) (ph sp no si tr : Int) (w : World) (c0 : w.cell? ⟨B, 0, none⟩ = some (.int .i64 ph)) (c1 : w.cell? ⟨B, 1, none⟩ = some (.int .i64 sp)) (c2 : w.cell? ⟨B, 2, none⟩ = some (.int .i64 no)) (c3 : w.cell? ⟨B, 3, none⟩ = some (.int .i64 si)) (c4 : w.cell? ⟨B, 4, none⟩ = some (.int .i64 tr)) (g0 : 0 ≤ ph) (g1 : ph ≤ 3) (g2 : 0 ≤ tr) (g3 : tr ≤ 255) (g4 : 0 ≤ si) (g5 : ¬ si ≤ 1000000000) : Calls Try.prog 22 #[.pointer (some ⟨B, 0, none⟩)] w fun e w' => e = .returned (.bool false) ∧ w = w' := by
  have t0 : decide (0 ≤ ph) = true := decide_eq_true g0
  have t1 : decide (ph ≤ 3) = true := decide_eq_true g1
  have t2 : decide (0 ≤ tr) = true := decide_eq_true g2
  have t3 : decide (tr ≤ 255) = true := decide_eq_true g3
  have t4 : decide (0 ≤ si) = true := decide_eq_true g4
  have t5 : decide (si ≤ 1000000000) = false := decide_eq_false g5
  go_enter Try.func22, Try.ntmps22
  go_wp2
  go_ret
  exact ⟨rfl, rfl⟩
set_option maxHeartbeats 2000000 in
set_option maxRecDepth 100000 in
theorem valid_6 (B : Nat) (ph sp no si tr : Int) (w : World) (c0 : w.cell? ⟨B, 0, none⟩ = some (.int .i64 ph)) (c1 : w.cell? ⟨B, 1, none⟩ = some (.int .i64 sp)) (c2 : w.cell? ⟨B, 2, none⟩ = some (.int .i64 no)) (c3 : w.cell? ⟨B, 3, none⟩ = some (.int .i64 si)) (c4 : w.cell? ⟨B, 4, none⟩ = some (.int .i64 tr)) (g0 : 0 ≤ ph) (g1 : ph ≤ 3) (g2 : 0 ≤ tr) (g3 : tr ≤ 255) (g4 : 0 ≤ si) (g5 : si ≤ 1000000000) (g6 : ¬ 0 ≤ no) : Calls Try.prog 22 #[.pointer (some ⟨B, 0, none⟩)] w fun e w' => e = .returned (.bool false) ∧ w = w' := by
  have t0 : decide (0 ≤ ph) = true := decide_eq_true g0
  have t1 : decide (ph ≤ 3) = true := decide_eq_true g1
  have t2 : decide (0 ≤ tr) = true := decide_eq_true g2
  have t3 : decide (tr ≤ 255) = true := decide_eq_true g3
  have t4 : decide (0 ≤ si) = true := decide_eq_true g4
  have t5 : decide (si ≤ 1000000000) = true := decide_eq_true g5
  have t6 : decide (0 ≤ no) = false := decide_eq_false g6
  go_enter Try.func22, Try.ntmps22
  go_wp2
  go_ret
  exact ⟨rfl, rfl⟩
set_option maxHeartbeats 2000000 in
set_option maxRecDepth 100000 in
theorem valid_7 (B : Nat) (ph sp no si tr : Int) (w : World) (c0 : w.cell? ⟨B, 0, none⟩ = some (.int .i64 ph)) (c1 : w.cell? ⟨B, 1, none⟩ = some (.int .i64 sp)) (c2 : w.cell? ⟨B, 2, none⟩ = some (.int .i64 no)) (c3 : w.cell? ⟨B, 3, none⟩ = some (.int .i64 si)) (c4 : w.cell? ⟨B, 4, none⟩ = some (.int .i64 tr)) (g0 : 0 ≤ ph) (g1 : ph ≤ 3) (g2 : 0 ≤ tr) (g3 : tr ≤ 255) (g4 : 0 ≤ si) (g5 : si ≤ 1000000000) (g6 : 0 ≤ no) (g7 : ¬ no ≤ 1000000000) : Calls Try.prog 22 #[.pointer (some ⟨B, 0, none⟩)] w fun e w' => e = .returned (.bool false) ∧ w = w' := by
  have t0 : decide (0 ≤ ph) = true := decide_eq_true g0
  have t1 : decide (ph ≤ 3) = true := decide_eq_true g1
  have t2 : decide (0 ≤ tr) = true := decide_eq_true g2
  have t3 : decide (tr ≤ 255) = true := decide_eq_true g3
  have t4 : decide (0 ≤ si) = true := decide_eq_true g4
  have t5 : decide (si ≤ 1000000000) = true := decide_eq_true g5
  have t6 : decide (0 ≤ no) = true := decide_eq_true g6
  have t7 : decide (no ≤ 1000000000) = false := decide_eq_false g7
  go_enter Try.func22, Try.ntmps22
  go_wp2
  go_ret
  exact ⟨rfl, rfl⟩
set_option maxHeartbeats 2000000 in
set_option maxRecDepth 100000 in
theorem valid_8 (B : Nat) (ph sp no si tr : Int) (w : World) (c0 : w.cell? ⟨B, 0, none⟩ = some (.int .i64 ph)) (c1 : w.cell? ⟨B, 1, none⟩ = some (.int .i64 sp)) (c2 : w.cell? ⟨B, 2, none⟩ = some (.int .i64 no)) (c3 : w.cell? ⟨B, 3, none⟩ = some (.int .i64 si)) (c4 : w.cell? ⟨B, 4, none⟩ = some (.int .i64 tr)) (g0 : 0 ≤ ph) (g1 : ph ≤ 3) (g2 : 0 ≤ tr) (g3 : tr ≤ 255) (g4 : 0 ≤ si) (g5 : si ≤ 1000000000) (g6 : 0 ≤ no) (g7 : no ≤ 1000000000) (g8 : ¬ -1 ≤ sp) : Calls Try.prog 22 #[.pointer (some ⟨B, 0, none⟩)] w fun e w' => e = .returned (.bool false) ∧ w = w' := by
  have t0 : decide (0 ≤ ph) = true := decide_eq_true g0
  have t1 : decide (ph ≤ 3) = true := decide_eq_true g1
  have t2 : decide (0 ≤ tr) = true := decide_eq_true g2
  have t3 : decide (tr ≤ 255) = true := decide_eq_true g3
  have t4 : decide (0 ≤ si) = true := decide_eq_true g4
  have t5 : decide (si ≤ 1000000000) = true := decide_eq_true g5
  have t6 : decide (0 ≤ no) = true := decide_eq_true g6
  have t7 : decide (no ≤ 1000000000) = true := decide_eq_true g7
  have t8 : decide (-1 ≤ sp) = false := decide_eq_false g8
  go_enter Try.func22, Try.ntmps22
  go_wp2
  go_ret
  exact ⟨rfl, rfl⟩
set_option maxHeartbeats 2000000 in
set_option maxRecDepth 100000 in
theorem valid_9 (B : Nat) (ph sp no si tr : Int) (w : World) (c0 : w.cell? ⟨B, 0, none⟩ = some (.int .i64 ph)) (c1 : w.cell? ⟨B, 1, none⟩ = some (.int .i64 sp)) (c2 : w.cell? ⟨B, 2, none⟩ = some (.int .i64 no)) (c3 : w.cell? ⟨B, 3, none⟩ = some (.int .i64 si)) (c4 : w.cell? ⟨B, 4, none⟩ = some (.int .i64 tr)) (g0 : 0 ≤ ph) (g1 : ph ≤ 3) (g2 : 0 ≤ tr) (g3 : tr ≤ 255) (g4 : 0 ≤ si) (g5 : si ≤ 1000000000) (g6 : 0 ≤ no) (g7 : no ≤ 1000000000) (g8 : -1 ≤ sp) (g9 : ¬ sp < 60) : Calls Try.prog 22 #[.pointer (some ⟨B, 0, none⟩)] w fun e w' => e = .returned (.bool false) ∧ w = w' := by
  have t0 : decide (0 ≤ ph) = true := decide_eq_true g0
  have t1 : decide (ph ≤ 3) = true := decide_eq_true g1
  have t2 : decide (0 ≤ tr) = true := decide_eq_true g2
  have t3 : decide (tr ≤ 255) = true := decide_eq_true g3
  have t4 : decide (0 ≤ si) = true := decide_eq_true g4
  have t5 : decide (si ≤ 1000000000) = true := decide_eq_true g5
  have t6 : decide (0 ≤ no) = true := decide_eq_true g6
  have t7 : decide (no ≤ 1000000000) = true := decide_eq_true g7
  have t8 : decide (-1 ≤ sp) = true := decide_eq_true g8
  have t9 : decide (sp < 60) = false := decide_eq_false g9
  go_enter Try.func22, Try.ntmps22
  go_wp2
  go_ret
  exact ⟨rfl, rfl⟩
set_option maxHeartbeats 2000000 in
set_option maxRecDepth 100000 in
theorem valid_10 (B : Nat) (ph sp no si tr : Int) (w : World) (c0 : w.cell? ⟨B, 0, none⟩ = some (.int .i64 ph)) (c1 : w.cell? ⟨B, 1, none⟩ = some (.int .i64 sp)) (c2 : w.cell? ⟨B, 2, none⟩ = some (.int .i64 no)) (c3 : w.cell? ⟨B, 3, none⟩ = some (.int .i64 si)) (c4 : w.cell? ⟨B, 4, none⟩ = some (.int .i64 tr)) (g0 : 0 ≤ ph) (g1 : ph ≤ 3) (g2 : 0 ≤ tr) (g3 : tr ≤ 255) (g4 : 0 ≤ si) (g5 : si ≤ 1000000000) (g6 : 0 ≤ no) (g7 : no ≤ 1000000000) (g8 : -1 ≤ sp) (g9 : sp < 60) : Calls Try.prog 22 #[.pointer (some ⟨B, 0, none⟩)] w fun e w' => e = .returned (.bool true) ∧ w = w' := by
  have t0 : decide (0 ≤ ph) = true := decide_eq_true g0
  have t1 : decide (ph ≤ 3) = true := decide_eq_true g1
  have t2 : decide (0 ≤ tr) = true := decide_eq_true g2
  have t3 : decide (tr ≤ 255) = true := decide_eq_true g3
  have t4 : decide (0 ≤ si) = true := decide_eq_true g4
  have t5 : decide (si ≤ 1000000000) = true := decide_eq_true g5
  have t6 : decide (0 ≤ no) = true := decide_eq_true g6
  have t7 : decide (no ≤ 1000000000) = true := decide_eq_true g7
  have t8 : decide (-1 ≤ sp) = true := decide_eq_true g8
  have t9 : decide (sp < 60) = true := decide_eq_true g9
  go_enter Try.func22, Try.ntmps22
  go_wp2
  go_ret
  exact ⟨rfl, rfl⟩
theorem valid_all (B : Nat) (ph sp no si tr : Int) (w : World) (c0 : w.cell? ⟨B, 0, none⟩ = some (.int .i64 ph)) (c1 : w.cell? ⟨B, 1, none⟩ = some (.int .i64 sp)) (c2 : w.cell? ⟨B, 2, none⟩ = some (.int .i64 no)) (c3 : w.cell? ⟨B, 3, none⟩ = some (.int .i64 si)) (c4 : w.cell? ⟨B, 4, none⟩ = some (.int .i64 tr)) : Calls Try.prog 22 #[.pointer (some ⟨B, 0, none⟩)] w fun e w' => e = .returned (.bool (validB ph sp no si tr)) ∧ w = w' := by
  unfold validB
  by_cases g0 : 0 ≤ ph
  rotate_left
  · rw [decide_eq_false (fun h => g0 h.1)]; exact valid_0 B ph sp no si tr w c0 c1 c2 c3 c4 g0
  by_cases g1 : ph ≤ 3
  rotate_left
  · rw [decide_eq_false (fun h => g1 h.2.1)]; exact valid_1 B ph sp no si tr w c0 c1 c2 c3 c4 g0 g1
  by_cases g2 : 0 ≤ tr
  rotate_left
  · rw [decide_eq_false (fun h => g2 h.2.2.1)]; exact valid_2 B ph sp no si tr w c0 c1 c2 c3 c4 g0 g1 g2
  by_cases g3 : tr ≤ 255
  rotate_left
  · rw [decide_eq_false (fun h => g3 h.2.2.2.1)]; exact valid_3 B ph sp no si tr w c0 c1 c2 c3 c4 g0 g1 g2 g3
  by_cases g4 : 0 ≤ si
  rotate_left
  · rw [decide_eq_false (fun h => g4 h.2.2.2.2.1)]; exact valid_4 B ph sp no si tr w c0 c1 c2 c3 c4 g0 g1 g2 g3 g4
  by_cases g5 : si ≤ 1000000000
  rotate_left
  · rw [decide_eq_false (fun h => g5 h.2.2.2.2.2.1)]; exact valid_5 B ph sp no si tr w c0 c1 c2 c3 c4 g0 g1 g2 g3 g4 g5
  by_cases g6 : 0 ≤ no
  rotate_left
  · rw [decide_eq_false (fun h => g6 h.2.2.2.2.2.2.1)]; exact valid_6 B ph sp no si tr w c0 c1 c2 c3 c4 g0 g1 g2 g3 g4 g5 g6
  by_cases g7 : no ≤ 1000000000
  rotate_left
  · rw [decide_eq_false (fun h => g7 h.2.2.2.2.2.2.2.1)]; exact valid_7 B ph sp no si tr w c0 c1 c2 c3 c4 g0 g1 g2 g3 g4 g5 g6 g7
  by_cases g8 : -1 ≤ sp
  rotate_left
  · rw [decide_eq_false (fun h => g8 h.2.2.2.2.2.2.2.2.1)]; exact valid_8 B ph sp no si tr w c0 c1 c2 c3 c4 g0 g1 g2 g3 g4 g5 g6 g7 g8
  by_cases g9 : sp < 60
  rotate_left
  · rw [decide_eq_false (fun h => g9 h.2.2.2.2.2.2.2.2.2)]; exact valid_9 B ph sp no si tr w c0 c1 c2 c3 c4 g0 g1 g2 g3 g4 g5 g6 g7 g8 g9
  rw [decide_eq_true (show 0 ≤ ph ∧ ph ≤ 3 ∧ 0 ≤ tr ∧ tr ≤ 255 ∧ 0 ≤ si ∧ si ≤ 1000000000 ∧ 0 ≤ no ∧ no ≤ 1000000000 ∧ -1 ≤ sp ∧ sp < 60 from ⟨g0, g1, g2, g3, g4, g5, g6, g7, g8, g9⟩)]; exact valid_10 B ph sp no si tr w c0 c1 c2 c3 c4 g0 g1 g2 g3 g4 g5 g6 g7 g8 g9
end Go.Proofs.Yteiiglefbbhinaa
