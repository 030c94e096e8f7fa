/-
  Ask, and the reference's.
-/
import Derived.Test.YteiiglefbbhinaaJoinE
namespace Go.Proofs.Yteiiglefbbhinaa
open Go.RowKit
set_option linter.unusedVariables false
set_option linter.unusedSimpArgs false
/-- May a stranger ask? -/
def askP (ph sp no si tr me bt spo fr : Int) : Prop := validB ph sp no si tr = true ∧ nodeB me = true ∧ nodeB spo = true ∧ me ≠ spo ∧ 0 ≤ bt ∧ bt ≤ 1000000 ∧ 0 ≤ fr ∧ fr ≤ 1000000000
set_option maxHeartbeats 2000000 in
set_option maxRecDepth 100000 in
theorem ask_a0 (ph sp no si tr me bt spo fr : Int) (w : World)  (g0 : validB ph sp no si tr = false) : Calls Try.prog 11 #[.agg #[.int .i64 ph, .int .i64 sp, .int .i64 no, .int .i64 si, .int .i64 tr], .int .i64 me, .int .i64 bt, .int .i64 spo, .int .i64 fr] w fun e w' => e = .returned (.tuple #[.agg #[.int .i64 0, .int .i64 0, .int .i64 0, .int .i64 0, .int .i64 0], .agg #[.int .i64 0, .int .i64 0, .int .i64 0, .int .i64 0, .int .i64 0, .int .i64 0, .int .i64 0, .int .i64 0], .int .i64 1]) ∧ Below w.heap.size w w' := by
  go_enter Try.func11, Try.ntmps11
  go_wp2_with (first | (go_at_call 22; refine (valid_all _ ph sp no si tr _ ?a0 ?a1 ?a2 ?a3 ?a4).mono ?_; (case a0 => go_simp); (case a1 => go_simp); (case a2 => go_simp); (case a3 => go_simp); (case a4 => go_simp); rintro e w' ⟨rfl, rfl⟩) | (go_at_call 23; refine (node_all _ _).mono ?_; rintro e w' ⟨rfl, rfl⟩))
  refine bodyPost_ret (v := .tuple #[.agg #[.int .i64 0, .int .i64 0, .int .i64 0, .int .i64 0, .int .i64 0], .agg #[.int .i64 0, .int .i64 0, .int .i64 0, .int .i64 0, .int .i64 0, .int .i64 0, .int .i64 0, .int .i64 0], .int .i64 1]) (by simp [results, Try.results11, go_sem]) rfl ⟨rfl, ?_⟩
  repeat (first | (with_reducible exact Below.refl _ _) | (with_reducible refine bs_drewN ?_ _) | (with_reducible refine bs_drew ?_) | (with_reducible refine bs_alloc ?_ _) | (with_reducible refine bs_set ?_ _ (by first | (simp; done) | (simp; omega))) | (with_reducible refine bs_step ?_ (by assumption)))
set_option maxHeartbeats 2000000 in
set_option maxRecDepth 100000 in
theorem ask_a1 (ph sp no si tr me bt spo fr : Int) (w : World) (g0 : validB ph sp no si tr = true) (g1 : nodeB me = false) : Calls Try.prog 11 #[.agg #[.int .i64 ph, .int .i64 sp, .int .i64 no, .int .i64 si, .int .i64 tr], .int .i64 me, .int .i64 bt, .int .i64 spo, .int .i64 fr] w fun e w' => e = .returned (.tuple #[.agg #[.int .i64 0, .int .i64 0, .int .i64 0, .int .i64 0, .int .i64 0], .agg #[.int .i64 0, .int .i64 0, .int .i64 0, .int .i64 0, .int .i64 0, .int .i64 0, .int .i64 0, .int .i64 0], .int .i64 1]) ∧ Below w.heap.size w w' := by
  go_enter Try.func11, Try.ntmps11
  go_wp2_with (first | (go_at_call 22; refine (valid_all _ ph sp no si tr _ ?a0 ?a1 ?a2 ?a3 ?a4).mono ?_; (case a0 => go_simp); (case a1 => go_simp); (case a2 => go_simp); (case a3 => go_simp); (case a4 => go_simp); rintro e w' ⟨rfl, rfl⟩) | (go_at_call 23; refine (node_all _ _).mono ?_; rintro e w' ⟨rfl, rfl⟩))
  refine bodyPost_ret (v := .tuple #[.agg #[.int .i64 0, .int .i64 0, .int .i64 0, .int .i64 0, .int .i64 0], .agg #[.int .i64 0, .int .i64 0, .int .i64 0, .int .i64 0, .int .i64 0, .int .i64 0, .int .i64 0, .int .i64 0], .int .i64 1]) (by simp [results, Try.results11, go_sem]) rfl ⟨rfl, ?_⟩
  repeat (first | (with_reducible exact Below.refl _ _) | (with_reducible refine bs_drewN ?_ _) | (with_reducible refine bs_drew ?_) | (with_reducible refine bs_alloc ?_ _) | (with_reducible refine bs_set ?_ _ (by first | (simp; done) | (simp; omega))) | (with_reducible refine bs_step ?_ (by assumption)))
set_option maxHeartbeats 2000000 in
set_option maxRecDepth 100000 in
theorem ask_a2 (ph sp no si tr me bt spo fr : Int) (w : World) (g0 : validB ph sp no si tr = true) (g1 : nodeB me = true) (g2 : nodeB spo = false) : Calls Try.prog 11 #[.agg #[.int .i64 ph, .int .i64 sp, .int .i64 no, .int .i64 si, .int .i64 tr], .int .i64 me, .int .i64 bt, .int .i64 spo, .int .i64 fr] w fun e w' => e = .returned (.tuple #[.agg #[.int .i64 0, .int .i64 0, .int .i64 0, .int .i64 0, .int .i64 0], .agg #[.int .i64 0, .int .i64 0, .int .i64 0, .int .i64 0, .int .i64 0, .int .i64 0, .int .i64 0, .int .i64 0], .int .i64 1]) ∧ Below w.heap.size w w' := by
  go_enter Try.func11, Try.ntmps11
  go_wp2_with (first | (go_at_call 22; refine (valid_all _ ph sp no si tr _ ?a0 ?a1 ?a2 ?a3 ?a4).mono ?_; (case a0 => go_simp); (case a1 => go_simp); (case a2 => go_simp); (case a3 => go_simp); (case a4 => go_simp); rintro e w' ⟨rfl, rfl⟩) | (go_at_call 23; refine (node_all _ _).mono ?_; rintro e w' ⟨rfl, rfl⟩))
  refine bodyPost_ret (v := .tuple #[.agg #[.int .i64 0, .int .i64 0, .int .i64 0, .int .i64 0, .int .i64 0], .agg #[.int .i64 0, .int .i64 0, .int .i64 0, .int .i64 0, .int .i64 0, .int .i64 0, .int .i64 0, .int .i64 0], .int .i64 1]) (by simp [results, Try.results11, go_sem]) rfl ⟨rfl, ?_⟩
  repeat (first | (with_reducible exact Below.refl _ _) | (with_reducible refine bs_drewN ?_ _) | (with_reducible refine bs_drew ?_) | (with_reducible refine bs_alloc ?_ _) | (with_reducible refine bs_set ?_ _ (by first | (simp; done) | (simp; omega))) | (with_reducible refine bs_step ?_ (by assumption)))
set_option maxHeartbeats 2000000 in
set_option maxRecDepth 100000 in
theorem ask_a3 (ph sp no si tr me bt spo fr : Int) (w : World) (g0 : validB ph sp no si tr = true) (g1 : nodeB me = true) (g2 : nodeB spo = true) (g3 : me = spo) : Calls Try.prog 11 #[.agg #[.int .i64 ph, .int .i64 sp, .int .i64 no, .int .i64 si, .int .i64 tr], .int .i64 me, .int .i64 bt, .int .i64 spo, .int .i64 fr] w fun e w' => e = .returned (.tuple #[.agg #[.int .i64 0, .int .i64 0, .int .i64 0, .int .i64 0, .int .i64 0], .agg #[.int .i64 0, .int .i64 0, .int .i64 0, .int .i64 0, .int .i64 0, .int .i64 0, .int .i64 0, .int .i64 0], .int .i64 1]) ∧ Below w.heap.size w w' := by
  have t3 : (me == spo) = true := beq_iff_eq.2 g3
  clear g3
  go_enter Try.func11, Try.ntmps11
  go_wp2_with (first | (go_at_call 22; refine (valid_all _ ph sp no si tr _ ?a0 ?a1 ?a2 ?a3 ?a4).mono ?_; (case a0 => go_simp); (case a1 => go_simp); (case a2 => go_simp); (case a3 => go_simp); (case a4 => go_simp); rintro e w' ⟨rfl, rfl⟩) | (go_at_call 23; refine (node_all _ _).mono ?_; rintro e w' ⟨rfl, rfl⟩))
  refine bodyPost_ret (v := .tuple #[.agg #[.int .i64 0, .int .i64 0, .int .i64 0, .int .i64 0, .int .i64 0], .agg #[.int .i64 0, .int .i64 0, .int .i64 0, .int .i64 0, .int .i64 0, .int .i64 0, .int .i64 0, .int .i64 0], .int .i64 1]) (by simp [results, Try.results11, go_sem]) rfl ⟨rfl, ?_⟩
  repeat (first | (with_reducible exact Below.refl _ _) | (with_reducible refine bs_drewN ?_ _) | (with_reducible refine bs_drew ?_) | (with_reducible refine bs_alloc ?_ _) | (with_reducible refine bs_set ?_ _ (by first | (simp; done) | (simp; omega))) | (with_reducible refine bs_step ?_ (by assumption)))
set_option maxHeartbeats 2000000 in
set_option maxRecDepth 100000 in
theorem ask_a4 (ph sp no si tr me bt spo fr : Int) (w : World) (g0 : validB ph sp no si tr = true) (g1 : nodeB me = true) (g2 : nodeB spo = true) (g3 : me ≠ spo) (g4 : bt < 0) : Calls Try.prog 11 #[.agg #[.int .i64 ph, .int .i64 sp, .int .i64 no, .int .i64 si, .int .i64 tr], .int .i64 me, .int .i64 bt, .int .i64 spo, .int .i64 fr] w fun e w' => e = .returned (.tuple #[.agg #[.int .i64 0, .int .i64 0, .int .i64 0, .int .i64 0, .int .i64 0], .agg #[.int .i64 0, .int .i64 0, .int .i64 0, .int .i64 0, .int .i64 0, .int .i64 0, .int .i64 0, .int .i64 0], .int .i64 1]) ∧ Below w.heap.size w w' := by
  have t3 : (me == spo) = false := beq_eq_false_iff_ne.2 g3
  have t4 : decide (bt < 0) = true := decide_eq_true g4
  clear g3
  go_enter Try.func11, Try.ntmps11
  go_wp2_with (first | (go_at_call 22; refine (valid_all _ ph sp no si tr _ ?a0 ?a1 ?a2 ?a3 ?a4).mono ?_; (case a0 => go_simp); (case a1 => go_simp); (case a2 => go_simp); (case a3 => go_simp); (case a4 => go_simp); rintro e w' ⟨rfl, rfl⟩) | (go_at_call 23; refine (node_all _ _).mono ?_; rintro e w' ⟨rfl, rfl⟩))
  refine bodyPost_ret (v := .tuple #[.agg #[.int .i64 0, .int .i64 0, .int .i64 0, .int .i64 0, .int .i64 0], .agg #[.int .i64 0, .int .i64 0, .int .i64 0, .int .i64 0, .int .i64 0, .int .i64 0, .int .i64 0, .int .i64 0], .int .i64 1]) (by simp [results, Try.results11, go_sem]) rfl ⟨rfl, ?_⟩
  repeat (first | (with_reducible exact Below.refl _ _) | (with_reducible refine bs_drewN ?_ _) | (with_reducible refine bs_drew ?_) | (with_reducible refine bs_alloc ?_ _) | (with_reducible refine bs_set ?_ _ (by first | (simp; done) | (simp; omega))) | (with_reducible refine bs_step ?_ (by assumption)))
set_option maxHeartbeats 2000000 in
set_option maxRecDepth 100000 in
theorem ask_a5 (ph sp no si tr me bt spo fr : Int) (w : World) (g0 : validB ph sp no si tr = true) (g1 : nodeB me = true) (g2 : nodeB spo = true) (g3 : me ≠ spo) (g4 : 0 ≤ bt) (g5 : 1000000 < bt) : Calls Try.prog 11 #[.agg #[.int .i64 ph, .int .i64 sp, .int .i64 no, .int .i64 si, .int .i64 tr], .int .i64 me, .int .i64 bt, .int .i64 spo, .int .i64 fr] w fun e w' => e = .returned (.tuple #[.agg #[.int .i64 0, .int .i64 0, .int .i64 0, .int .i64 0, .int .i64 0], .agg #[.int .i64 0, .int .i64 0, .int .i64 0, .int .i64 0, .int .i64 0, .int .i64 0, .int .i64 0, .int .i64 0], .int .i64 1]) ∧ Below w.heap.size w w' := by
  have t3 : (me == spo) = false := beq_eq_false_iff_ne.2 g3
  have t4 : decide (bt < 0) = false := decide_eq_false (by omega)
  have t5 : decide (1000000 < bt) = true := decide_eq_true g5
  clear g3
  go_enter Try.func11, Try.ntmps11
  go_wp2_with (first | (go_at_call 22; refine (valid_all _ ph sp no si tr _ ?a0 ?a1 ?a2 ?a3 ?a4).mono ?_; (case a0 => go_simp); (case a1 => go_simp); (case a2 => go_simp); (case a3 => go_simp); (case a4 => go_simp); rintro e w' ⟨rfl, rfl⟩) | (go_at_call 23; refine (node_all _ _).mono ?_; rintro e w' ⟨rfl, rfl⟩))
  refine bodyPost_ret (v := .tuple #[.agg #[.int .i64 0, .int .i64 0, .int .i64 0, .int .i64 0, .int .i64 0], .agg #[.int .i64 0, .int .i64 0, .int .i64 0, .int .i64 0, .int .i64 0, .int .i64 0, .int .i64 0, .int .i64 0], .int .i64 1]) (by simp [results, Try.results11, go_sem]) rfl ⟨rfl, ?_⟩
  repeat (first | (with_reducible exact Below.refl _ _) | (with_reducible refine bs_drewN ?_ _) | (with_reducible refine bs_drew ?_) | (with_reducible refine bs_alloc ?_ _) | (with_reducible refine bs_set ?_ _ (by first | (simp; done) | (simp; omega))) | (with_reducible refine bs_step ?_ (by assumption)))
set_option maxHeartbeats 2000000 in
set_option maxRecDepth 100000 in
theorem ask_a6 (ph sp no si tr me bt spo fr : Int) (w : World) (g0 : validB ph sp no si tr = true) (g1 : nodeB me = true) (g2 : nodeB spo = true) (g3 : me ≠ spo) (g4 : 0 ≤ bt) (g5 : bt ≤ 1000000) (g6 : fr < 0) : Calls Try.prog 11 #[.agg #[.int .i64 ph, .int .i64 sp, .int .i64 no, .int .i64 si, .int .i64 tr], .int .i64 me, .int .i64 bt, .int .i64 spo, .int .i64 fr] w fun e w' => e = .returned (.tuple #[.agg #[.int .i64 0, .int .i64 0, .int .i64 0, .int .i64 0, .int .i64 0], .agg #[.int .i64 0, .int .i64 0, .int .i64 0, .int .i64 0, .int .i64 0, .int .i64 0, .int .i64 0, .int .i64 0], .int .i64 1]) ∧ Below w.heap.size w w' := by
  have t3 : (me == spo) = false := beq_eq_false_iff_ne.2 g3
  have t4 : decide (bt < 0) = false := decide_eq_false (by omega)
  have t5 : decide (1000000 < bt) = false := decide_eq_false (by omega)
  have t6 : decide (fr < 0) = true := decide_eq_true g6
  clear g3
  go_enter Try.func11, Try.ntmps11
  go_wp2_with (first | (go_at_call 22; refine (valid_all _ ph sp no si tr _ ?a0 ?a1 ?a2 ?a3 ?a4).mono ?_; (case a0 => go_simp); (case a1 => go_simp); (case a2 => go_simp); (case a3 => go_simp); (case a4 => go_simp); rintro e w' ⟨rfl, rfl⟩) | (go_at_call 23; refine (node_all _ _).mono ?_; rintro e w' ⟨rfl, rfl⟩))
  refine bodyPost_ret (v := .tuple #[.agg #[.int .i64 0, .int .i64 0, .int .i64 0, .int .i64 0, .int .i64 0], .agg #[.int .i64 0, .int .i64 0, .int .i64 0, .int .i64 0, .int .i64 0, .int .i64 0, .int .i64 0, .int .i64 0], .int .i64 1]) (by simp [results, Try.results11, go_sem]) rfl ⟨rfl, ?_⟩
  repeat (first | (with_reducible exact Below.refl _ _) | (with_reducible refine bs_drewN ?_ _) | (with_reducible refine bs_drew ?_) | (with_reducible refine bs_alloc ?_ _) | (with_reducible refine bs_set ?_ _ (by first | (simp; done) | (simp; omega))) | (with_reducible refine bs_step ?_ (by assumption)))
set_option maxHeartbeats 2000000 in
set_option maxRecDepth 100000 in
theorem ask_a7 (ph sp no si tr me bt spo fr : Int) (w : World) (g0 : validB ph sp no si tr = true) (g1 : nodeB me = true) (g2 : nodeB spo = true) (g3 : me ≠ spo) (g4 : 0 ≤ bt) (g5 : bt ≤ 1000000) (g6 : 0 ≤ fr) (g7 : 1000000000 < fr) : Calls Try.prog 11 #[.agg #[.int .i64 ph, .int .i64 sp, .int .i64 no, .int .i64 si, .int .i64 tr], .int .i64 me, .int .i64 bt, .int .i64 spo, .int .i64 fr] w fun e w' => e = .returned (.tuple #[.agg #[.int .i64 0, .int .i64 0, .int .i64 0, .int .i64 0, .int .i64 0], .agg #[.int .i64 0, .int .i64 0, .int .i64 0, .int .i64 0, .int .i64 0, .int .i64 0, .int .i64 0, .int .i64 0], .int .i64 1]) ∧ Below w.heap.size w w' := by
  have t3 : (me == spo) = false := beq_eq_false_iff_ne.2 g3
  have t4 : decide (bt < 0) = false := decide_eq_false (by omega)
  have t5 : decide (1000000 < bt) = false := decide_eq_false (by omega)
  have t6 : decide (fr < 0) = false := decide_eq_false (by omega)
  have t7 : decide (1000000000 < fr) = true := decide_eq_true g7
  clear g3
  go_enter Try.func11, Try.ntmps11
  go_wp2_with (first | (go_at_call 22; refine (valid_all _ ph sp no si tr _ ?a0 ?a1 ?a2 ?a3 ?a4).mono ?_; (case a0 => go_simp); (case a1 => go_simp); (case a2 => go_simp); (case a3 => go_simp); (case a4 => go_simp); rintro e w' ⟨rfl, rfl⟩) | (go_at_call 23; refine (node_all _ _).mono ?_; rintro e w' ⟨rfl, rfl⟩))
  refine bodyPost_ret (v := .tuple #[.agg #[.int .i64 0, .int .i64 0, .int .i64 0, .int .i64 0, .int .i64 0], .agg #[.int .i64 0, .int .i64 0, .int .i64 0, .int .i64 0, .int .i64 0, .int .i64 0, .int .i64 0, .int .i64 0], .int .i64 1]) (by simp [results, Try.results11, go_sem]) rfl ⟨rfl, ?_⟩
  repeat (first | (with_reducible exact Below.refl _ _) | (with_reducible refine bs_drewN ?_ _) | (with_reducible refine bs_drew ?_) | (with_reducible refine bs_alloc ?_ _) | (with_reducible refine bs_set ?_ _ (by first | (simp; done) | (simp; omega))) | (with_reducible refine bs_step ?_ (by assumption)))
set_option maxHeartbeats 2000000 in
set_option maxRecDepth 100000 in
theorem ask_s (ph sp no si tr me bt spo fr : Int) (w : World) (h : askP ph sp no si tr me bt spo fr) (hp : ph ≠ 0) : Calls Try.prog 11 #[.agg #[.int .i64 ph, .int .i64 sp, .int .i64 no, .int .i64 si, .int .i64 tr], .int .i64 me, .int .i64 bt, .int .i64 spo, .int .i64 fr] w fun e w' => e = .returned (.tuple #[.agg #[.int .i64 0, .int .i64 0, .int .i64 0, .int .i64 0, .int .i64 0], .agg #[.int .i64 0, .int .i64 0, .int .i64 0, .int .i64 0, .int .i64 0, .int .i64 0, .int .i64 0, .int .i64 0], .int .i64 6]) ∧ Below w.heap.size w w' := by
  obtain ⟨g0, g1, g2, g3, g4, g5, g6, g7⟩ := h
  obtain ⟨_, _, _, _, ⟨r0, r1⟩⟩ := valid_si g0
  have t3 : (me == spo) = false := beq_eq_false_iff_ne.2 g3
  have t4 : decide (bt < 0) = false := decide_eq_false (by omega)
  have t5 : decide (1000000 < bt) = false := decide_eq_false (by omega)
  have t6 : decide (fr < 0) = false := decide_eq_false (by omega)
  have t7 : decide (1000000000 < fr) = false := decide_eq_false (by omega)
  have u0 : (ph != 0) = true := by rw [bne_iff_ne]; exact hp
  clear g3 hp
  go_enter Try.func11, Try.ntmps11
  go_wp2_with (first | (go_at_call 22; refine (valid_all _ ph sp no si tr _ ?a0 ?a1 ?a2 ?a3 ?a4).mono ?_; (case a0 => go_simp); (case a1 => go_simp); (case a2 => go_simp); (case a3 => go_simp); (case a4 => go_simp); rintro e w' ⟨rfl, rfl⟩) | (go_at_call 23; refine (node_all _ _).mono ?_; rintro e w' ⟨rfl, rfl⟩))
  refine bodyPost_ret (v := .tuple #[.agg #[.int .i64 0, .int .i64 0, .int .i64 0, .int .i64 0, .int .i64 0], .agg #[.int .i64 0, .int .i64 0, .int .i64 0, .int .i64 0, .int .i64 0, .int .i64 0, .int .i64 0, .int .i64 0], .int .i64 6]) (by simp [results, Try.results11, go_sem]) rfl ⟨rfl, ?_⟩
  repeat (first | (with_reducible exact Below.refl _ _) | (with_reducible refine bs_drewN ?_ _) | (with_reducible refine bs_drew ?_) | (with_reducible refine bs_alloc ?_ _) | (with_reducible refine bs_set ?_ _ (by first | (simp; done) | (simp; omega))) | (with_reducible refine bs_step ?_ (by assumption)))
set_option maxHeartbeats 2000000 in
set_option maxRecDepth 100000 in
theorem ask_l (ph sp no si tr me bt spo fr : Int) (w : World) (h : askP ph sp no si tr me bt spo fr) (hp : ph = 0) (ht : tr = 255) : Calls Try.prog 11 #[.agg #[.int .i64 ph, .int .i64 sp, .int .i64 no, .int .i64 si, .int .i64 tr], .int .i64 me, .int .i64 bt, .int .i64 spo, .int .i64 fr] w fun e w' => e = .returned (.tuple #[.agg #[.int .i64 0, .int .i64 0, .int .i64 0, .int .i64 0, .int .i64 0], .agg #[.int .i64 0, .int .i64 0, .int .i64 0, .int .i64 0, .int .i64 0, .int .i64 0, .int .i64 0, .int .i64 0], .int .i64 2]) ∧ Below w.heap.size w w' := by
  obtain ⟨g0, g1, g2, g3, g4, g5, g6, g7⟩ := h
  obtain ⟨_, _, _, _, ⟨r0, r1⟩⟩ := valid_si g0
  have t3 : (me == spo) = false := beq_eq_false_iff_ne.2 g3
  have t4 : decide (bt < 0) = false := decide_eq_false (by omega)
  have t5 : decide (1000000 < bt) = false := decide_eq_false (by omega)
  have t6 : decide (fr < 0) = false := decide_eq_false (by omega)
  have t7 : decide (1000000000 < fr) = false := decide_eq_false (by omega)
  have u0 : (ph != 0) = false := by rw [bne_eq_false_iff_eq]; exact hp
  have u1 : (tr == 255) = true := beq_iff_eq.2 ht
  clear g3 hp ht
  go_enter Try.func11, Try.ntmps11
  go_wp2_with (first | (go_at_call 22; refine (valid_all _ ph sp no si tr _ ?a0 ?a1 ?a2 ?a3 ?a4).mono ?_; (case a0 => go_simp); (case a1 => go_simp); (case a2 => go_simp); (case a3 => go_simp); (case a4 => go_simp); rintro e w' ⟨rfl, rfl⟩) | (go_at_call 23; refine (node_all _ _).mono ?_; rintro e w' ⟨rfl, rfl⟩))
  refine bodyPost_ret (v := .tuple #[.agg #[.int .i64 0, .int .i64 0, .int .i64 0, .int .i64 0, .int .i64 0], .agg #[.int .i64 0, .int .i64 0, .int .i64 0, .int .i64 0, .int .i64 0, .int .i64 0, .int .i64 0, .int .i64 0], .int .i64 2]) (by simp [results, Try.results11, go_sem]) rfl ⟨rfl, ?_⟩
  repeat (first | (with_reducible exact Below.refl _ _) | (with_reducible refine bs_drewN ?_ _) | (with_reducible refine bs_drew ?_) | (with_reducible refine bs_alloc ?_ _) | (with_reducible refine bs_set ?_ _ (by first | (simp; done) | (simp; omega))) | (with_reducible refine bs_step ?_ (by assumption)))
set_option maxHeartbeats 2000000 in
set_option maxRecDepth 100000 in
theorem ask_o (ph sp no si tr me bt spo fr : Int) (w : World) (h : askP ph sp no si tr me bt spo fr) (hp : ph = 0) (ht : tr ≠ 255) : Calls Try.prog 11 #[.agg #[.int .i64 ph, .int .i64 sp, .int .i64 no, .int .i64 si, .int .i64 tr], .int .i64 me, .int .i64 bt, .int .i64 spo, .int .i64 fr] w fun e w' => e = .returned (.tuple #[.agg #[.int .i64 1, .int .i64 spo, .int .i64 (256 * bt + tr + 1), .int .i64 fr, .int .i64 (tr + 1)], .agg #[.int .i64 1, .int .i64 me, .int .i64 spo, .int .i64 (256 * bt + tr + 1), .int .i64 0, .int .i64 0, .int .i64 0, .int .i64 0], .int .i64 0]) ∧ Below w.heap.size w w' := by
  obtain ⟨g0, g1, g2, g3, g4, g5, g6, g7⟩ := h
  obtain ⟨_, _, _, _, ⟨r0, r1⟩⟩ := valid_si g0
  have t3 : (me == spo) = false := beq_eq_false_iff_ne.2 g3
  have t4 : decide (bt < 0) = false := decide_eq_false (by omega)
  have t5 : decide (1000000 < bt) = false := decide_eq_false (by omega)
  have t6 : decide (fr < 0) = false := decide_eq_false (by omega)
  have t7 : decide (1000000000 < fr) = false := decide_eq_false (by omega)
  have u0 : (ph != 0) = false := by rw [bne_eq_false_iff_eq]; exact hp
  have u1 : (tr == 255) = false := beq_eq_false_iff_ne.2 ht
  clear g3 hp ht
  go_enter Try.func11, Try.ntmps11
  go_wp2_with (first | (go_at_call 22; refine (valid_all _ ph sp no si tr _ ?a0 ?a1 ?a2 ?a3 ?a4).mono ?_; (case a0 => go_simp); (case a1 => go_simp); (case a2 => go_simp); (case a3 => go_simp); (case a4 => go_simp); rintro e w' ⟨rfl, rfl⟩) | (go_at_call 23; refine (node_all _ _).mono ?_; rintro e w' ⟨rfl, rfl⟩))
  go_region
  go_wp2
  have ea : 256 * bt + (tr + 1) = 256 * bt + tr + 1 := by omega
  refine bodyPost_ret (v := .tuple #[.agg #[.int .i64 1, .int .i64 spo, .int .i64 (256 * bt + (tr + 1)), .int .i64 fr, .int .i64 (tr + 1)], .agg #[.int .i64 1, .int .i64 me, .int .i64 spo, .int .i64 (256 * bt + (tr + 1)), .int .i64 0, .int .i64 0, .int .i64 0, .int .i64 0], .int .i64 0]) (by simp [results, Try.results11, go_sem]) rfl ⟨by rw [ea], ?_⟩
  repeat (first | (with_reducible exact Below.refl _ _) | (with_reducible refine bs_drewN ?_ _) | (with_reducible refine bs_drew ?_) | (with_reducible refine bs_alloc ?_ _) | (with_reducible refine bs_set ?_ _ (by first | (simp; done) | (simp; omega))) | (with_reducible refine bs_step ?_ (by assumption)))
theorem ask_arg (ph sp no si tr me bt spo fr : Int) (w : World) (h : ¬ askP ph sp no si tr me bt spo fr) : Calls Try.prog 11 #[.agg #[.int .i64 ph, .int .i64 sp, .int .i64 no, .int .i64 si, .int .i64 tr], .int .i64 me, .int .i64 bt, .int .i64 spo, .int .i64 fr] w fun e w' => e = .returned (.tuple #[.agg #[.int .i64 0, .int .i64 0, .int .i64 0, .int .i64 0, .int .i64 0], .agg #[.int .i64 0, .int .i64 0, .int .i64 0, .int .i64 0, .int .i64 0, .int .i64 0, .int .i64 0, .int .i64 0], .int .i64 1]) ∧ Below w.heap.size w w' := by
  unfold askP at h
  by_cases g0 : validB ph sp no si tr = true
  rotate_left
  · exact ask_a0 _ _ _ _ _ _ _ _ _ w  (by simpa using g0)
  by_cases g1 : nodeB me = true
  rotate_left
  · exact ask_a1 _ _ _ _ _ _ _ _ _ w g0 (by simpa using g1)
  by_cases g2 : nodeB spo = true
  rotate_left
  · exact ask_a2 _ _ _ _ _ _ _ _ _ w g0 g1 (by simpa using g2)
  by_cases g3 : me ≠ spo
  rotate_left
  · exact ask_a3 _ _ _ _ _ _ _ _ _ w g0 g1 g2 (by omega)
  by_cases g4 : 0 ≤ bt
  rotate_left
  · exact ask_a4 _ _ _ _ _ _ _ _ _ w g0 g1 g2 g3 (by omega)
  by_cases g5 : bt ≤ 1000000
  rotate_left
  · exact ask_a5 _ _ _ _ _ _ _ _ _ w g0 g1 g2 g3 g4 (by omega)
  by_cases g6 : 0 ≤ fr
  rotate_left
  · exact ask_a6 _ _ _ _ _ _ _ _ _ w g0 g1 g2 g3 g4 g5 (by omega)
  by_cases g7 : fr ≤ 1000000000
  rotate_left
  · exact ask_a7 _ _ _ _ _ _ _ _ _ w g0 g1 g2 g3 g4 g5 g6 (by omega)
  exact absurd ⟨g0, g1, g2, g3, g4, g5, g6, g7⟩ h
set_option maxHeartbeats 2000000 in
set_option maxRecDepth 100000 in
theorem rask_a0 (ph sp no si tr me bt spo fr : Int) (w : World)  (g0 : validB ph sp no si tr = false) : Calls Try.prog 12 #[.agg #[.int .i64 ph, .int .i64 sp, .int .i64 no, .int .i64 si, .int .i64 tr], .int .i64 me, .int .i64 bt, .int .i64 spo, .int .i64 fr] w fun e w' => e = .returned (.tuple #[.agg #[.int .i64 0, .int .i64 0, .int .i64 0, .int .i64 0, .int .i64 0], .agg #[.int .i64 0, .int .i64 0, .int .i64 0, .int .i64 0, .int .i64 0, .int .i64 0, .int .i64 0, .int .i64 0], .int .i64 1]) ∧ Below w.heap.size w w' := by
  go_enter Try.func12, Try.ntmps12
  go_wp2_with (first | (go_at_call 19; refine (rvalid_all _ _ _ _ _ _).mono ?_; rintro e w' ⟨rfl, rfl⟩) | (go_at_call 24; refine (rid_all _ _).mono ?_; rintro e w' ⟨rfl, rfl⟩))
  refine bodyPost_ret (v := .tuple #[.agg #[.int .i64 0, .int .i64 0, .int .i64 0, .int .i64 0, .int .i64 0], .agg #[.int .i64 0, .int .i64 0, .int .i64 0, .int .i64 0, .int .i64 0, .int .i64 0, .int .i64 0, .int .i64 0], .int .i64 1]) (by simp [results, Try.results12, go_sem]) rfl ⟨rfl, ?_⟩
  repeat (first | (with_reducible exact Below.refl _ _) | (with_reducible refine bs_drewN ?_ _) | (with_reducible refine bs_drew ?_) | (with_reducible refine bs_alloc ?_ _) | (with_reducible refine bs_set ?_ _ (by first | (simp; done) | (simp; omega))) | (with_reducible refine bs_step ?_ (by assumption)))
set_option maxHeartbeats 2000000 in
set_option maxRecDepth 100000 in
theorem rask_a1 (ph sp no si tr me bt spo fr : Int) (w : World) (g0 : validB ph sp no si tr = true) (g1 : nodeB me = false) : Calls Try.prog 12 #[.agg #[.int .i64 ph, .int .i64 sp, .int .i64 no, .int .i64 si, .int .i64 tr], .int .i64 me, .int .i64 bt, .int .i64 spo, .int .i64 fr] w fun e w' => e = .returned (.tuple #[.agg #[.int .i64 0, .int .i64 0, .int .i64 0, .int .i64 0, .int .i64 0], .agg #[.int .i64 0, .int .i64 0, .int .i64 0, .int .i64 0, .int .i64 0, .int .i64 0, .int .i64 0, .int .i64 0], .int .i64 1]) ∧ Below w.heap.size w w' := by
  go_enter Try.func12, Try.ntmps12
  go_wp2_with (first | (go_at_call 19; refine (rvalid_all _ _ _ _ _ _).mono ?_; rintro e w' ⟨rfl, rfl⟩) | (go_at_call 24; refine (rid_all _ _).mono ?_; rintro e w' ⟨rfl, rfl⟩))
  refine bodyPost_ret (v := .tuple #[.agg #[.int .i64 0, .int .i64 0, .int .i64 0, .int .i64 0, .int .i64 0], .agg #[.int .i64 0, .int .i64 0, .int .i64 0, .int .i64 0, .int .i64 0, .int .i64 0, .int .i64 0, .int .i64 0], .int .i64 1]) (by simp [results, Try.results12, go_sem]) rfl ⟨rfl, ?_⟩
  repeat (first | (with_reducible exact Below.refl _ _) | (with_reducible refine bs_drewN ?_ _) | (with_reducible refine bs_drew ?_) | (with_reducible refine bs_alloc ?_ _) | (with_reducible refine bs_set ?_ _ (by first | (simp; done) | (simp; omega))) | (with_reducible refine bs_step ?_ (by assumption)))
set_option maxHeartbeats 2000000 in
set_option maxRecDepth 100000 in
theorem rask_a2 (ph sp no si tr me bt spo fr : Int) (w : World) (g0 : validB ph sp no si tr = true) (g1 : nodeB me = true) (g2 : nodeB spo = false) : Calls Try.prog 12 #[.agg #[.int .i64 ph, .int .i64 sp, .int .i64 no, .int .i64 si, .int .i64 tr], .int .i64 me, .int .i64 bt, .int .i64 spo, .int .i64 fr] w fun e w' => e = .returned (.tuple #[.agg #[.int .i64 0, .int .i64 0, .int .i64 0, .int .i64 0, .int .i64 0], .agg #[.int .i64 0, .int .i64 0, .int .i64 0, .int .i64 0, .int .i64 0, .int .i64 0, .int .i64 0, .int .i64 0], .int .i64 1]) ∧ Below w.heap.size w w' := by
  go_enter Try.func12, Try.ntmps12
  go_wp2_with (first | (go_at_call 19; refine (rvalid_all _ _ _ _ _ _).mono ?_; rintro e w' ⟨rfl, rfl⟩) | (go_at_call 24; refine (rid_all _ _).mono ?_; rintro e w' ⟨rfl, rfl⟩))
  refine bodyPost_ret (v := .tuple #[.agg #[.int .i64 0, .int .i64 0, .int .i64 0, .int .i64 0, .int .i64 0], .agg #[.int .i64 0, .int .i64 0, .int .i64 0, .int .i64 0, .int .i64 0, .int .i64 0, .int .i64 0, .int .i64 0], .int .i64 1]) (by simp [results, Try.results12, go_sem]) rfl ⟨rfl, ?_⟩
  repeat (first | (with_reducible exact Below.refl _ _) | (with_reducible refine bs_drewN ?_ _) | (with_reducible refine bs_drew ?_) | (with_reducible refine bs_alloc ?_ _) | (with_reducible refine bs_set ?_ _ (by first | (simp; done) | (simp; omega))) | (with_reducible refine bs_step ?_ (by assumption)))
set_option maxHeartbeats 2000000 in
set_option maxRecDepth 100000 in
theorem rask_a3 (ph sp no si tr me bt spo fr : Int) (w : World) (g0 : validB ph sp no si tr = true) (g1 : nodeB me = true) (g2 : nodeB spo = true) (g3 : me = spo) : Calls Try.prog 12 #[.agg #[.int .i64 ph, .int .i64 sp, .int .i64 no, .int .i64 si, .int .i64 tr], .int .i64 me, .int .i64 bt, .int .i64 spo, .int .i64 fr] w fun e w' => e = .returned (.tuple #[.agg #[.int .i64 0, .int .i64 0, .int .i64 0, .int .i64 0, .int .i64 0], .agg #[.int .i64 0, .int .i64 0, .int .i64 0, .int .i64 0, .int .i64 0, .int .i64 0, .int .i64 0, .int .i64 0], .int .i64 1]) ∧ Below w.heap.size w w' := by
  have t3 : (me == spo) = true := beq_iff_eq.2 g3
  clear g3
  go_enter Try.func12, Try.ntmps12
  go_wp2_with (first | (go_at_call 19; refine (rvalid_all _ _ _ _ _ _).mono ?_; rintro e w' ⟨rfl, rfl⟩) | (go_at_call 24; refine (rid_all _ _).mono ?_; rintro e w' ⟨rfl, rfl⟩))
  refine bodyPost_ret (v := .tuple #[.agg #[.int .i64 0, .int .i64 0, .int .i64 0, .int .i64 0, .int .i64 0], .agg #[.int .i64 0, .int .i64 0, .int .i64 0, .int .i64 0, .int .i64 0, .int .i64 0, .int .i64 0, .int .i64 0], .int .i64 1]) (by simp [results, Try.results12, go_sem]) rfl ⟨rfl, ?_⟩
  repeat (first | (with_reducible exact Below.refl _ _) | (with_reducible refine bs_drewN ?_ _) | (with_reducible refine bs_drew ?_) | (with_reducible refine bs_alloc ?_ _) | (with_reducible refine bs_set ?_ _ (by first | (simp; done) | (simp; omega))) | (with_reducible refine bs_step ?_ (by assumption)))
set_option maxHeartbeats 2000000 in
set_option maxRecDepth 100000 in
theorem rask_a4 (ph sp no si tr me bt spo fr : Int) (w : World) (g0 : validB ph sp no si tr = true) (g1 : nodeB me = true) (g2 : nodeB spo = true) (g3 : me ≠ spo) (g4 : bt < 0) : Calls Try.prog 12 #[.agg #[.int .i64 ph, .int .i64 sp, .int .i64 no, .int .i64 si, .int .i64 tr], .int .i64 me, .int .i64 bt, .int .i64 spo, .int .i64 fr] w fun e w' => e = .returned (.tuple #[.agg #[.int .i64 0, .int .i64 0, .int .i64 0, .int .i64 0, .int .i64 0], .agg #[.int .i64 0, .int .i64 0, .int .i64 0, .int .i64 0, .int .i64 0, .int .i64 0, .int .i64 0, .int .i64 0], .int .i64 1]) ∧ Below w.heap.size w w' := by
  have t3 : (me == spo) = false := beq_eq_false_iff_ne.2 g3
  have t4 : decide (bt < 0) = true := decide_eq_true g4
  clear g3
  go_enter Try.func12, Try.ntmps12
  go_wp2_with (first | (go_at_call 19; refine (rvalid_all _ _ _ _ _ _).mono ?_; rintro e w' ⟨rfl, rfl⟩) | (go_at_call 24; refine (rid_all _ _).mono ?_; rintro e w' ⟨rfl, rfl⟩))
  refine bodyPost_ret (v := .tuple #[.agg #[.int .i64 0, .int .i64 0, .int .i64 0, .int .i64 0, .int .i64 0], .agg #[.int .i64 0, .int .i64 0, .int .i64 0, .int .i64 0, .int .i64 0, .int .i64 0, .int .i64 0, .int .i64 0], .int .i64 1]) (by simp [results, Try.results12, go_sem]) rfl ⟨rfl, ?_⟩
  repeat (first | (with_reducible exact Below.refl _ _) | (with_reducible refine bs_drewN ?_ _) | (with_reducible refine bs_drew ?_) | (with_reducible refine bs_alloc ?_ _) | (with_reducible refine bs_set ?_ _ (by first | (simp; done) | (simp; omega))) | (with_reducible refine bs_step ?_ (by assumption)))
set_option maxHeartbeats 2000000 in
set_option maxRecDepth 100000 in
theorem rask_a5 (ph sp no si tr me bt spo fr : Int) (w : World) (g0 : validB ph sp no si tr = true) (g1 : nodeB me = true) (g2 : nodeB spo = true) (g3 : me ≠ spo) (g4 : 0 ≤ bt) (g5 : 1000000 < bt) : Calls Try.prog 12 #[.agg #[.int .i64 ph, .int .i64 sp, .int .i64 no, .int .i64 si, .int .i64 tr], .int .i64 me, .int .i64 bt, .int .i64 spo, .int .i64 fr] w fun e w' => e = .returned (.tuple #[.agg #[.int .i64 0, .int .i64 0, .int .i64 0, .int .i64 0, .int .i64 0], .agg #[.int .i64 0, .int .i64 0, .int .i64 0, .int .i64 0, .int .i64 0, .int .i64 0, .int .i64 0, .int .i64 0], .int .i64 1]) ∧ Below w.heap.size w w' := by
  have t3 : (me == spo) = false := beq_eq_false_iff_ne.2 g3
  have t4 : decide (bt < 0) = false := decide_eq_false (by omega)
  have t5 : decide (1000000 < bt) = true := decide_eq_true g5
  clear g3
  go_enter Try.func12, Try.ntmps12
  go_wp2_with (first | (go_at_call 19; refine (rvalid_all _ _ _ _ _ _).mono ?_; rintro e w' ⟨rfl, rfl⟩) | (go_at_call 24; refine (rid_all _ _).mono ?_; rintro e w' ⟨rfl, rfl⟩))
  refine bodyPost_ret (v := .tuple #[.agg #[.int .i64 0, .int .i64 0, .int .i64 0, .int .i64 0, .int .i64 0], .agg #[.int .i64 0, .int .i64 0, .int .i64 0, .int .i64 0, .int .i64 0, .int .i64 0, .int .i64 0, .int .i64 0], .int .i64 1]) (by simp [results, Try.results12, go_sem]) rfl ⟨rfl, ?_⟩
  repeat (first | (with_reducible exact Below.refl _ _) | (with_reducible refine bs_drewN ?_ _) | (with_reducible refine bs_drew ?_) | (with_reducible refine bs_alloc ?_ _) | (with_reducible refine bs_set ?_ _ (by first | (simp; done) | (simp; omega))) | (with_reducible refine bs_step ?_ (by assumption)))
set_option maxHeartbeats 2000000 in
set_option maxRecDepth 100000 in
theorem rask_a6 (ph sp no si tr me bt spo fr : Int) (w : World) (g0 : validB ph sp no si tr = true) (g1 : nodeB me = true) (g2 : nodeB spo = true) (g3 : me ≠ spo) (g4 : 0 ≤ bt) (g5 : bt ≤ 1000000) (g6 : fr < 0) : Calls Try.prog 12 #[.agg #[.int .i64 ph, .int .i64 sp, .int .i64 no, .int .i64 si, .int .i64 tr], .int .i64 me, .int .i64 bt, .int .i64 spo, .int .i64 fr] w fun e w' => e = .returned (.tuple #[.agg #[.int .i64 0, .int .i64 0, .int .i64 0, .int .i64 0, .int .i64 0], .agg #[.int .i64 0, .int .i64 0, .int .i64 0, .int .i64 0, .int .i64 0, .int .i64 0, .int .i64 0, .int .i64 0], .int .i64 1]) ∧ Below w.heap.size w w' := by
  have t3 : (me == spo) = false := beq_eq_false_iff_ne.2 g3
  have t4 : decide (bt < 0) = false := decide_eq_false (by omega)
  have t5 : decide (1000000 < bt) = false := decide_eq_false (by omega)
  have t6 : decide (fr < 0) = true := decide_eq_true g6
  clear g3
  go_enter Try.func12, Try.ntmps12
  go_wp2_with (first | (go_at_call 19; refine (rvalid_all _ _ _ _ _ _).mono ?_; rintro e w' ⟨rfl, rfl⟩) | (go_at_call 24; refine (rid_all _ _).mono ?_; rintro e w' ⟨rfl, rfl⟩))
  refine bodyPost_ret (v := .tuple #[.agg #[.int .i64 0, .int .i64 0, .int .i64 0, .int .i64 0, .int .i64 0], .agg #[.int .i64 0, .int .i64 0, .int .i64 0, .int .i64 0, .int .i64 0, .int .i64 0, .int .i64 0, .int .i64 0], .int .i64 1]) (by simp [results, Try.results12, go_sem]) rfl ⟨rfl, ?_⟩
  repeat (first | (with_reducible exact Below.refl _ _) | (with_reducible refine bs_drewN ?_ _) | (with_reducible refine bs_drew ?_) | (with_reducible refine bs_alloc ?_ _) | (with_reducible refine bs_set ?_ _ (by first | (simp; done) | (simp; omega))) | (with_reducible refine bs_step ?_ (by assumption)))
set_option maxHeartbeats 2000000 in
set_option maxRecDepth 100000 in
theorem rask_a7 (ph sp no si tr me bt spo fr : Int) (w : World) (g0 : validB ph sp no si tr = true) (g1 : nodeB me = true) (g2 : nodeB spo = true) (g3 : me ≠ spo) (g4 : 0 ≤ bt) (g5 : bt ≤ 1000000) (g6 : 0 ≤ fr) (g7 : 1000000000 < fr) : Calls Try.prog 12 #[.agg #[.int .i64 ph, .int .i64 sp, .int .i64 no, .int .i64 si, .int .i64 tr], .int .i64 me, .int .i64 bt, .int .i64 spo, .int .i64 fr] w fun e w' => e = .returned (.tuple #[.agg #[.int .i64 0, .int .i64 0, .int .i64 0, .int .i64 0, .int .i64 0], .agg #[.int .i64 0, .int .i64 0, .int .i64 0, .int .i64 0, .int .i64 0, .int .i64 0, .int .i64 0, .int .i64 0], .int .i64 1]) ∧ Below w.heap.size w w' := by
  have t3 : (me == spo) = false := beq_eq_false_iff_ne.2 g3
  have t4 : decide (bt < 0) = false := decide_eq_false (by omega)
  have t5 : decide (1000000 < bt) = false := decide_eq_false (by omega)
  have t6 : decide (fr < 0) = false := decide_eq_false (by omega)
  have t7 : decide (1000000000 < fr) = true := decide_eq_true g7
  clear g3
  go_enter Try.func12, Try.ntmps12
  go_wp2_with (first | (go_at_call 19; refine (rvalid_all _ _ _ _ _ _).mono ?_; rintro e w' ⟨rfl, rfl⟩) | (go_at_call 24; refine (rid_all _ _).mono ?_; rintro e w' ⟨rfl, rfl⟩))
  refine bodyPost_ret (v := .tuple #[.agg #[.int .i64 0, .int .i64 0, .int .i64 0, .int .i64 0, .int .i64 0], .agg #[.int .i64 0, .int .i64 0, .int .i64 0, .int .i64 0, .int .i64 0, .int .i64 0, .int .i64 0, .int .i64 0], .int .i64 1]) (by simp [results, Try.results12, go_sem]) rfl ⟨rfl, ?_⟩
  repeat (first | (with_reducible exact Below.refl _ _) | (with_reducible refine bs_drewN ?_ _) | (with_reducible refine bs_drew ?_) | (with_reducible refine bs_alloc ?_ _) | (with_reducible refine bs_set ?_ _ (by first | (simp; done) | (simp; omega))) | (with_reducible refine bs_step ?_ (by assumption)))
set_option maxHeartbeats 2000000 in
set_option maxRecDepth 100000 in
theorem rask_s (ph sp no si tr me bt spo fr : Int) (w : World) (h : askP ph sp no si tr me bt spo fr) (hp : ph ≠ 0) : Calls Try.prog 12 #[.agg #[.int .i64 ph, .int .i64 sp, .int .i64 no, .int .i64 si, .int .i64 tr], .int .i64 me, .int .i64 bt, .int .i64 spo, .int .i64 fr] w fun e w' => e = .returned (.tuple #[.agg #[.int .i64 0, .int .i64 0, .int .i64 0, .int .i64 0, .int .i64 0], .agg #[.int .i64 0, .int .i64 0, .int .i64 0, .int .i64 0, .int .i64 0, .int .i64 0, .int .i64 0, .int .i64 0], .int .i64 6]) ∧ Below w.heap.size w w' := by
  obtain ⟨g0, g1, g2, g3, g4, g5, g6, g7⟩ := h
  obtain ⟨_, _, _, _, ⟨r0, r1⟩⟩ := valid_si g0
  have t3 : (me == spo) = false := beq_eq_false_iff_ne.2 g3
  have t4 : decide (bt < 0) = false := decide_eq_false (by omega)
  have t5 : decide (1000000 < bt) = false := decide_eq_false (by omega)
  have t6 : decide (fr < 0) = false := decide_eq_false (by omega)
  have t7 : decide (1000000000 < fr) = false := decide_eq_false (by omega)
  have u0 : (ph != 0) = true := by rw [bne_iff_ne]; exact hp
  clear g3 hp
  go_enter Try.func12, Try.ntmps12
  go_wp2_with (first | (go_at_call 19; refine (rvalid_all _ _ _ _ _ _).mono ?_; rintro e w' ⟨rfl, rfl⟩) | (go_at_call 24; refine (rid_all _ _).mono ?_; rintro e w' ⟨rfl, rfl⟩))
  refine bodyPost_ret (v := .tuple #[.agg #[.int .i64 0, .int .i64 0, .int .i64 0, .int .i64 0, .int .i64 0], .agg #[.int .i64 0, .int .i64 0, .int .i64 0, .int .i64 0, .int .i64 0, .int .i64 0, .int .i64 0, .int .i64 0], .int .i64 6]) (by simp [results, Try.results12, go_sem]) rfl ⟨rfl, ?_⟩
  repeat (first | (with_reducible exact Below.refl _ _) | (with_reducible refine bs_drewN ?_ _) | (with_reducible refine bs_drew ?_) | (with_reducible refine bs_alloc ?_ _) | (with_reducible refine bs_set ?_ _ (by first | (simp; done) | (simp; omega))) | (with_reducible refine bs_step ?_ (by assumption)))
set_option maxHeartbeats 2000000 in
set_option maxRecDepth 100000 in
theorem rask_l (ph sp no si tr me bt spo fr : Int) (w : World) (h : askP ph sp no si tr me bt spo fr) (hp : ph = 0) (ht : tr = 255) : Calls Try.prog 12 #[.agg #[.int .i64 ph, .int .i64 sp, .int .i64 no, .int .i64 si, .int .i64 tr], .int .i64 me, .int .i64 bt, .int .i64 spo, .int .i64 fr] w fun e w' => e = .returned (.tuple #[.agg #[.int .i64 0, .int .i64 0, .int .i64 0, .int .i64 0, .int .i64 0], .agg #[.int .i64 0, .int .i64 0, .int .i64 0, .int .i64 0, .int .i64 0, .int .i64 0, .int .i64 0, .int .i64 0], .int .i64 2]) ∧ Below w.heap.size w w' := by
  obtain ⟨g0, g1, g2, g3, g4, g5, g6, g7⟩ := h
  obtain ⟨_, _, _, _, ⟨r0, r1⟩⟩ := valid_si g0
  have t3 : (me == spo) = false := beq_eq_false_iff_ne.2 g3
  have t4 : decide (bt < 0) = false := decide_eq_false (by omega)
  have t5 : decide (1000000 < bt) = false := decide_eq_false (by omega)
  have t6 : decide (fr < 0) = false := decide_eq_false (by omega)
  have t7 : decide (1000000000 < fr) = false := decide_eq_false (by omega)
  have u0 : (ph != 0) = false := by rw [bne_eq_false_iff_eq]; exact hp
  have u1 : (tr == 255) = true := beq_iff_eq.2 ht
  clear g3 hp ht
  go_enter Try.func12, Try.ntmps12
  go_wp2_with (first | (go_at_call 19; refine (rvalid_all _ _ _ _ _ _).mono ?_; rintro e w' ⟨rfl, rfl⟩) | (go_at_call 24; refine (rid_all _ _).mono ?_; rintro e w' ⟨rfl, rfl⟩))
  refine bodyPost_ret (v := .tuple #[.agg #[.int .i64 0, .int .i64 0, .int .i64 0, .int .i64 0, .int .i64 0], .agg #[.int .i64 0, .int .i64 0, .int .i64 0, .int .i64 0, .int .i64 0, .int .i64 0, .int .i64 0, .int .i64 0], .int .i64 2]) (by simp [results, Try.results12, go_sem]) rfl ⟨rfl, ?_⟩
  repeat (first | (with_reducible exact Below.refl _ _) | (with_reducible refine bs_drewN ?_ _) | (with_reducible refine bs_drew ?_) | (with_reducible refine bs_alloc ?_ _) | (with_reducible refine bs_set ?_ _ (by first | (simp; done) | (simp; omega))) | (with_reducible refine bs_step ?_ (by assumption)))
set_option maxHeartbeats 2000000 in
set_option maxRecDepth 100000 in
theorem rask_o (ph sp no si tr me bt spo fr : Int) (w : World) (h : askP ph sp no si tr me bt spo fr) (hp : ph = 0) (ht : tr ≠ 255) : Calls Try.prog 12 #[.agg #[.int .i64 ph, .int .i64 sp, .int .i64 no, .int .i64 si, .int .i64 tr], .int .i64 me, .int .i64 bt, .int .i64 spo, .int .i64 fr] w fun e w' => e = .returned (.tuple #[.agg #[.int .i64 1, .int .i64 spo, .int .i64 (256 * bt + tr + 1), .int .i64 fr, .int .i64 (tr + 1)], .agg #[.int .i64 1, .int .i64 me, .int .i64 spo, .int .i64 (256 * bt + tr + 1), .int .i64 0, .int .i64 0, .int .i64 0, .int .i64 0], .int .i64 0]) ∧ Below w.heap.size w w' := by
  obtain ⟨g0, g1, g2, g3, g4, g5, g6, g7⟩ := h
  obtain ⟨_, _, _, _, ⟨r0, r1⟩⟩ := valid_si g0
  have t3 : (me == spo) = false := beq_eq_false_iff_ne.2 g3
  have t4 : decide (bt < 0) = false := decide_eq_false (by omega)
  have t5 : decide (1000000 < bt) = false := decide_eq_false (by omega)
  have t6 : decide (fr < 0) = false := decide_eq_false (by omega)
  have t7 : decide (1000000000 < fr) = false := decide_eq_false (by omega)
  have u0 : (ph != 0) = false := by rw [bne_eq_false_iff_eq]; exact hp
  have u1 : (tr == 255) = false := beq_eq_false_iff_ne.2 ht
  clear g3 hp ht
  go_enter Try.func12, Try.ntmps12
  go_wp2_with (first | (go_at_call 19; refine (rvalid_all _ _ _ _ _ _).mono ?_; rintro e w' ⟨rfl, rfl⟩) | (go_at_call 24; refine (rid_all _ _).mono ?_; rintro e w' ⟨rfl, rfl⟩))
  refine bodyPost_ret (v := .tuple #[.agg #[.int .i64 1, .int .i64 spo, .int .i64 (256 * bt + tr + 1), .int .i64 fr, .int .i64 (tr + 1)], .agg #[.int .i64 1, .int .i64 me, .int .i64 spo, .int .i64 (256 * bt + tr + 1), .int .i64 0, .int .i64 0, .int .i64 0, .int .i64 0], .int .i64 0]) (by simp [results, Try.results12, go_sem]) rfl ⟨rfl, ?_⟩
  repeat (first | (with_reducible exact Below.refl _ _) | (with_reducible refine bs_drewN ?_ _) | (with_reducible refine bs_drew ?_) | (with_reducible refine bs_alloc ?_ _) | (with_reducible refine bs_set ?_ _ (by first | (simp; done) | (simp; omega))) | (with_reducible refine bs_step ?_ (by assumption)))
theorem rask_arg (ph sp no si tr me bt spo fr : Int) (w : World) (h : ¬ askP ph sp no si tr me bt spo fr) : Calls Try.prog 12 #[.agg #[.int .i64 ph, .int .i64 sp, .int .i64 no, .int .i64 si, .int .i64 tr], .int .i64 me, .int .i64 bt, .int .i64 spo, .int .i64 fr] w fun e w' => e = .returned (.tuple #[.agg #[.int .i64 0, .int .i64 0, .int .i64 0, .int .i64 0, .int .i64 0], .agg #[.int .i64 0, .int .i64 0, .int .i64 0, .int .i64 0, .int .i64 0, .int .i64 0, .int .i64 0, .int .i64 0], .int .i64 1]) ∧ Below w.heap.size w w' := by
  unfold askP at h
  by_cases g0 : validB ph sp no si tr = true
  rotate_left
  · exact rask_a0 _ _ _ _ _ _ _ _ _ w  (by simpa using g0)
  by_cases g1 : nodeB me = true
  rotate_left
  · exact rask_a1 _ _ _ _ _ _ _ _ _ w g0 (by simpa using g1)
  by_cases g2 : nodeB spo = true
  rotate_left
  · exact rask_a2 _ _ _ _ _ _ _ _ _ w g0 g1 (by simpa using g2)
  by_cases g3 : me ≠ spo
  rotate_left
  · exact rask_a3 _ _ _ _ _ _ _ _ _ w g0 g1 g2 (by omega)
  by_cases g4 : 0 ≤ bt
  rotate_left
  · exact rask_a4 _ _ _ _ _ _ _ _ _ w g0 g1 g2 g3 (by omega)
  by_cases g5 : bt ≤ 1000000
  rotate_left
  · exact rask_a5 _ _ _ _ _ _ _ _ _ w g0 g1 g2 g3 g4 (by omega)
  by_cases g6 : 0 ≤ fr
  rotate_left
  · exact rask_a6 _ _ _ _ _ _ _ _ _ w g0 g1 g2 g3 g4 g5 (by omega)
  by_cases g7 : fr ≤ 1000000000
  rotate_left
  · exact rask_a7 _ _ _ _ _ _ _ _ _ w g0 g1 g2 g3 g4 g5 g6 (by omega)
  exact absurd ⟨g0, g1, g2, g3, g4, g5, g6, g7⟩ h
end Go.Proofs.Yteiiglefbbhinaa
