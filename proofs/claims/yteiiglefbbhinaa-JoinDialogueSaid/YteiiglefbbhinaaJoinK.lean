/-
  Hear, where the word is refused, and the reference's.
-/
import Derived.Test.YteiiglefbbhinaaJoinE
import Derived.Test.YteiiglefbbhinaaJoinF
namespace Go.Proofs.Yteiiglefbbhinaa
open Go.RowKit
set_option linter.unusedVariables false
set_option linter.unusedSimpArgs false
set_option maxHeartbeats 2000000 in
set_option maxRecDepth 100000 in
theorem hear_r0 (ph sp no si tr k st ws wn ch key f n fr me : Int) (w : World) (hv : validB ph sp no si tr = false) : Calls Try.prog 13 #[.agg #[.int .i64 ph, .int .i64 sp, .int .i64 no, .int .i64 si, .int .i64 tr], .int .i64 me, .agg #[.int .i64 k, .int .i64 st, .int .i64 ws, .int .i64 wn, .int .i64 ch, .int .i64 key, .int .i64 f, .int .i64 n], .int .i64 fr] w fun e w' => e = .returned (.tuple #[.agg #[.int .i64 ph, .int .i64 sp, .int .i64 no, .int .i64 si, .int .i64 tr], .agg #[.int .i64 0, .int .i64 0, .int .i64 0, .int .i64 0, .int .i64 0, .int .i64 0, .int .i64 0, .int .i64 0], .bool false]) ∧ Below w.heap.size w w' := by
  go_enter Try.func13, Try.ntmps13
  go_wp2_with (first | (go_at_call 22; refine (valid_all _ ph sp no si tr _ ?a0 ?a1 ?a2 ?a3 ?a4).mono ?_; (case a0 => go_simp); (case a1 => go_simp); (case a2 => go_simp); (case a3 => go_simp); (case a4 => go_simp); rintro e w' ⟨rfl, rfl⟩) | (go_at_call 27; refine (formed_all _ _ _ _ _ _ _ _ _).mono ?_; rintro e w' ⟨rfl, rfl⟩) | (go_at_call 26; refine (own_all _ _).mono ?_; rintro e w' ⟨rfl, rfl⟩))
  refine bodyPost_ret (v := .tuple #[.agg #[.int .i64 ph, .int .i64 sp, .int .i64 no, .int .i64 si, .int .i64 tr], .agg #[.int .i64 0, .int .i64 0, .int .i64 0, .int .i64 0, .int .i64 0, .int .i64 0, .int .i64 0, .int .i64 0], .bool false]) (by simp [results, Try.results13, go_sem]) rfl ⟨rfl, ?_⟩
  repeat (first | (with_reducible exact Below.refl _ _) | (with_reducible refine bs_drewN ?_ _) | (with_reducible refine bs_drew ?_) | (with_reducible refine bs_alloc ?_ _) | (with_reducible refine bs_set ?_ _ (by first | (simp; done) | (simp; omega))) | (with_reducible refine bs_step ?_ (by assumption)))
set_option maxHeartbeats 2000000 in
set_option maxRecDepth 100000 in
theorem hear_r1 (ph sp no si tr k st ws wn ch key f n fr me : Int) (w : World) (hv : validB ph sp no si tr = true) (hf : formedB k st ws wn ch = false) : Calls Try.prog 13 #[.agg #[.int .i64 ph, .int .i64 sp, .int .i64 no, .int .i64 si, .int .i64 tr], .int .i64 me, .agg #[.int .i64 k, .int .i64 st, .int .i64 ws, .int .i64 wn, .int .i64 ch, .int .i64 key, .int .i64 f, .int .i64 n], .int .i64 fr] w fun e w' => e = .returned (.tuple #[.agg #[.int .i64 ph, .int .i64 sp, .int .i64 no, .int .i64 si, .int .i64 tr], .agg #[.int .i64 0, .int .i64 0, .int .i64 0, .int .i64 0, .int .i64 0, .int .i64 0, .int .i64 0, .int .i64 0], .bool false]) ∧ Below w.heap.size w w' := by
  go_enter Try.func13, Try.ntmps13
  go_wp2_with (first | (go_at_call 22; refine (valid_all _ ph sp no si tr _ ?a0 ?a1 ?a2 ?a3 ?a4).mono ?_; (case a0 => go_simp); (case a1 => go_simp); (case a2 => go_simp); (case a3 => go_simp); (case a4 => go_simp); rintro e w' ⟨rfl, rfl⟩) | (go_at_call 27; refine (formed_all _ _ _ _ _ _ _ _ _).mono ?_; rintro e w' ⟨rfl, rfl⟩) | (go_at_call 26; refine (own_all _ _).mono ?_; rintro e w' ⟨rfl, rfl⟩))
  refine bodyPost_ret (v := .tuple #[.agg #[.int .i64 ph, .int .i64 sp, .int .i64 no, .int .i64 si, .int .i64 tr], .agg #[.int .i64 0, .int .i64 0, .int .i64 0, .int .i64 0, .int .i64 0, .int .i64 0, .int .i64 0, .int .i64 0], .bool false]) (by simp [results, Try.results13, go_sem]) rfl ⟨rfl, ?_⟩
  repeat (first | (with_reducible exact Below.refl _ _) | (with_reducible refine bs_drewN ?_ _) | (with_reducible refine bs_drew ?_) | (with_reducible refine bs_alloc ?_ _) | (with_reducible refine bs_set ?_ _ (by first | (simp; done) | (simp; omega))) | (with_reducible refine bs_step ?_ (by assumption)))
set_option maxHeartbeats 2000000 in
set_option maxRecDepth 100000 in
theorem hear_r2 (ph sp no si tr k st ws wn ch key f n fr me : Int) (w : World) (hv : validB ph sp no si tr = true) (hf : formedB k st ws wn ch = true) (f0 : fr < 0) : Calls Try.prog 13 #[.agg #[.int .i64 ph, .int .i64 sp, .int .i64 no, .int .i64 si, .int .i64 tr], .int .i64 me, .agg #[.int .i64 k, .int .i64 st, .int .i64 ws, .int .i64 wn, .int .i64 ch, .int .i64 key, .int .i64 f, .int .i64 n], .int .i64 fr] w fun e w' => e = .returned (.tuple #[.agg #[.int .i64 ph, .int .i64 sp, .int .i64 no, .int .i64 si, .int .i64 tr], .agg #[.int .i64 0, .int .i64 0, .int .i64 0, .int .i64 0, .int .i64 0, .int .i64 0, .int .i64 0, .int .i64 0], .bool false]) ∧ Below w.heap.size w w' := by
  have t0 : decide (fr < 0) = true := decide_eq_true f0
  go_enter Try.func13, Try.ntmps13
  go_wp2_with (first | (go_at_call 22; refine (valid_all _ ph sp no si tr _ ?a0 ?a1 ?a2 ?a3 ?a4).mono ?_; (case a0 => go_simp); (case a1 => go_simp); (case a2 => go_simp); (case a3 => go_simp); (case a4 => go_simp); rintro e w' ⟨rfl, rfl⟩) | (go_at_call 27; refine (formed_all _ _ _ _ _ _ _ _ _).mono ?_; rintro e w' ⟨rfl, rfl⟩) | (go_at_call 26; refine (own_all _ _).mono ?_; rintro e w' ⟨rfl, rfl⟩))
  refine bodyPost_ret (v := .tuple #[.agg #[.int .i64 ph, .int .i64 sp, .int .i64 no, .int .i64 si, .int .i64 tr], .agg #[.int .i64 0, .int .i64 0, .int .i64 0, .int .i64 0, .int .i64 0, .int .i64 0, .int .i64 0, .int .i64 0], .bool false]) (by simp [results, Try.results13, go_sem]) rfl ⟨rfl, ?_⟩
  repeat (first | (with_reducible exact Below.refl _ _) | (with_reducible refine bs_drewN ?_ _) | (with_reducible refine bs_drew ?_) | (with_reducible refine bs_alloc ?_ _) | (with_reducible refine bs_set ?_ _ (by first | (simp; done) | (simp; omega))) | (with_reducible refine bs_step ?_ (by assumption)))
set_option maxHeartbeats 2000000 in
set_option maxRecDepth 100000 in
theorem hear_r3 (ph sp no si tr k st ws wn ch key f n fr me : Int) (w : World) (hv : validB ph sp no si tr = true) (hf : formedB k st ws wn ch = true) (f0 : 1000000000 < fr) : Calls Try.prog 13 #[.agg #[.int .i64 ph, .int .i64 sp, .int .i64 no, .int .i64 si, .int .i64 tr], .int .i64 me, .agg #[.int .i64 k, .int .i64 st, .int .i64 ws, .int .i64 wn, .int .i64 ch, .int .i64 key, .int .i64 f, .int .i64 n], .int .i64 fr] w fun e w' => e = .returned (.tuple #[.agg #[.int .i64 ph, .int .i64 sp, .int .i64 no, .int .i64 si, .int .i64 tr], .agg #[.int .i64 0, .int .i64 0, .int .i64 0, .int .i64 0, .int .i64 0, .int .i64 0, .int .i64 0, .int .i64 0], .bool false]) ∧ Below w.heap.size w w' := by
  have t0 : decide (fr < 0) = false := decide_eq_false (by omega)
  have t1 : decide (1000000000 < fr) = true := decide_eq_true f0
  go_enter Try.func13, Try.ntmps13
  go_wp2_with (first | (go_at_call 22; refine (valid_all _ ph sp no si tr _ ?a0 ?a1 ?a2 ?a3 ?a4).mono ?_; (case a0 => go_simp); (case a1 => go_simp); (case a2 => go_simp); (case a3 => go_simp); (case a4 => go_simp); rintro e w' ⟨rfl, rfl⟩) | (go_at_call 27; refine (formed_all _ _ _ _ _ _ _ _ _).mono ?_; rintro e w' ⟨rfl, rfl⟩) | (go_at_call 26; refine (own_all _ _).mono ?_; rintro e w' ⟨rfl, rfl⟩))
  refine bodyPost_ret (v := .tuple #[.agg #[.int .i64 ph, .int .i64 sp, .int .i64 no, .int .i64 si, .int .i64 tr], .agg #[.int .i64 0, .int .i64 0, .int .i64 0, .int .i64 0, .int .i64 0, .int .i64 0, .int .i64 0, .int .i64 0], .bool false]) (by simp [results, Try.results13, go_sem]) rfl ⟨rfl, ?_⟩
  repeat (first | (with_reducible exact Below.refl _ _) | (with_reducible refine bs_drewN ?_ _) | (with_reducible refine bs_drew ?_) | (with_reducible refine bs_alloc ?_ _) | (with_reducible refine bs_set ?_ _ (by first | (simp; done) | (simp; omega))) | (with_reducible refine bs_step ?_ (by assumption)))
set_option maxHeartbeats 2000000 in
set_option maxRecDepth 100000 in
theorem hear_r4 (ph sp no si tr k st ws wn ch key f n fr me : Int) (w : World) (hv : validB ph sp no si tr = true) (hf : formedB k st ws wn ch = true) (f0 : 0 ≤ fr) (f1 : fr ≤ 1000000000) (h : st ≠ me) : Calls Try.prog 13 #[.agg #[.int .i64 ph, .int .i64 sp, .int .i64 no, .int .i64 si, .int .i64 tr], .int .i64 me, .agg #[.int .i64 k, .int .i64 st, .int .i64 ws, .int .i64 wn, .int .i64 ch, .int .i64 key, .int .i64 f, .int .i64 n], .int .i64 fr] w fun e w' => e = .returned (.tuple #[.agg #[.int .i64 ph, .int .i64 sp, .int .i64 no, .int .i64 si, .int .i64 tr], .agg #[.int .i64 0, .int .i64 0, .int .i64 0, .int .i64 0, .int .i64 0, .int .i64 0, .int .i64 0, .int .i64 0], .bool false]) ∧ Below w.heap.size w w' := by
  have t0 : decide (fr < 0) = false := decide_eq_false (by omega)
  have t1 : decide (1000000000 < fr) = false := decide_eq_false (by omega)
  have t2 : (st == me) = false := beq_eq_false_iff_ne.2 h
  have t3 : (st != me) = true := by rw [bne_iff_ne]; exact h
  clear h
  go_enter Try.func13, Try.ntmps13
  go_wp2_with (first | (go_at_call 22; refine (valid_all _ ph sp no si tr _ ?a0 ?a1 ?a2 ?a3 ?a4).mono ?_; (case a0 => go_simp); (case a1 => go_simp); (case a2 => go_simp); (case a3 => go_simp); (case a4 => go_simp); rintro e w' ⟨rfl, rfl⟩) | (go_at_call 27; refine (formed_all _ _ _ _ _ _ _ _ _).mono ?_; rintro e w' ⟨rfl, rfl⟩) | (go_at_call 26; refine (own_all _ _).mono ?_; rintro e w' ⟨rfl, rfl⟩))
  refine bodyPost_ret (v := .tuple #[.agg #[.int .i64 ph, .int .i64 sp, .int .i64 no, .int .i64 si, .int .i64 tr], .agg #[.int .i64 0, .int .i64 0, .int .i64 0, .int .i64 0, .int .i64 0, .int .i64 0, .int .i64 0, .int .i64 0], .bool false]) (by simp [results, Try.results13, go_sem]) rfl ⟨rfl, ?_⟩
  repeat (first | (with_reducible exact Below.refl _ _) | (with_reducible refine bs_drewN ?_ _) | (with_reducible refine bs_drew ?_) | (with_reducible refine bs_alloc ?_ _) | (with_reducible refine bs_set ?_ _ (by first | (simp; done) | (simp; omega))) | (with_reducible refine bs_step ?_ (by assumption)))
set_option maxHeartbeats 2000000 in
set_option maxRecDepth 100000 in
theorem hear_r5 (ph sp no si tr k ws wn ch key f n fr me : Int) (w : World) (hv : validB ph sp no si tr = true) (hf : formedB k me ws wn ch = true) (f0 : 0 ≤ fr) (f1 : fr ≤ 1000000000) (h : ws ≠ sp) : Calls Try.prog 13 #[.agg #[.int .i64 ph, .int .i64 sp, .int .i64 no, .int .i64 si, .int .i64 tr], .int .i64 me, .agg #[.int .i64 k, .int .i64 me, .int .i64 ws, .int .i64 wn, .int .i64 ch, .int .i64 key, .int .i64 f, .int .i64 n], .int .i64 fr] w fun e w' => e = .returned (.tuple #[.agg #[.int .i64 ph, .int .i64 sp, .int .i64 no, .int .i64 si, .int .i64 tr], .agg #[.int .i64 0, .int .i64 0, .int .i64 0, .int .i64 0, .int .i64 0, .int .i64 0, .int .i64 0, .int .i64 0], .bool false]) ∧ Below w.heap.size w w' := by
  have t0 : decide (fr < 0) = false := decide_eq_false (by omega)
  have t1 : decide (1000000000 < fr) = false := decide_eq_false (by omega)
  have t2 : (ws == sp) = false := beq_eq_false_iff_ne.2 h
  have t3 : (ws != sp) = true := by rw [bne_iff_ne]; exact h
  clear h
  go_enter Try.func13, Try.ntmps13
  go_wp2_with (first | (go_at_call 22; refine (valid_all _ ph sp no si tr _ ?a0 ?a1 ?a2 ?a3 ?a4).mono ?_; (case a0 => go_simp); (case a1 => go_simp); (case a2 => go_simp); (case a3 => go_simp); (case a4 => go_simp); rintro e w' ⟨rfl, rfl⟩) | (go_at_call 27; refine (formed_all _ _ _ _ _ _ _ _ _).mono ?_; rintro e w' ⟨rfl, rfl⟩) | (go_at_call 26; refine (own_all _ _).mono ?_; rintro e w' ⟨rfl, rfl⟩))
  refine bodyPost_ret (v := .tuple #[.agg #[.int .i64 ph, .int .i64 sp, .int .i64 no, .int .i64 si, .int .i64 tr], .agg #[.int .i64 0, .int .i64 0, .int .i64 0, .int .i64 0, .int .i64 0, .int .i64 0, .int .i64 0, .int .i64 0], .bool false]) (by simp [results, Try.results13, go_sem]) rfl ⟨rfl, ?_⟩
  repeat (first | (with_reducible exact Below.refl _ _) | (with_reducible refine bs_drewN ?_ _) | (with_reducible refine bs_drew ?_) | (with_reducible refine bs_alloc ?_ _) | (with_reducible refine bs_set ?_ _ (by first | (simp; done) | (simp; omega))) | (with_reducible refine bs_step ?_ (by assumption)))
set_option maxHeartbeats 2000000 in
set_option maxRecDepth 100000 in
theorem hear_r6 (ph sp no si tr k wn ch key f n fr me : Int) (w : World) (hv : validB ph sp no si tr = true) (hf : formedB k me sp wn ch = true) (f0 : 0 ≤ fr) (f1 : fr ≤ 1000000000) (h : wn ≠ no) : Calls Try.prog 13 #[.agg #[.int .i64 ph, .int .i64 sp, .int .i64 no, .int .i64 si, .int .i64 tr], .int .i64 me, .agg #[.int .i64 k, .int .i64 me, .int .i64 sp, .int .i64 wn, .int .i64 ch, .int .i64 key, .int .i64 f, .int .i64 n], .int .i64 fr] w fun e w' => e = .returned (.tuple #[.agg #[.int .i64 ph, .int .i64 sp, .int .i64 no, .int .i64 si, .int .i64 tr], .agg #[.int .i64 0, .int .i64 0, .int .i64 0, .int .i64 0, .int .i64 0, .int .i64 0, .int .i64 0, .int .i64 0], .bool false]) ∧ Below w.heap.size w w' := by
  have t0 : decide (fr < 0) = false := decide_eq_false (by omega)
  have t1 : decide (1000000000 < fr) = false := decide_eq_false (by omega)
  have t2 : (wn == no) = false := beq_eq_false_iff_ne.2 h
  have t3 : (wn != no) = true := by rw [bne_iff_ne]; exact h
  clear h
  go_enter Try.func13, Try.ntmps13
  go_wp2_with (first | (go_at_call 22; refine (valid_all _ ph sp no si tr _ ?a0 ?a1 ?a2 ?a3 ?a4).mono ?_; (case a0 => go_simp); (case a1 => go_simp); (case a2 => go_simp); (case a3 => go_simp); (case a4 => go_simp); rintro e w' ⟨rfl, rfl⟩) | (go_at_call 27; refine (formed_all _ _ _ _ _ _ _ _ _).mono ?_; rintro e w' ⟨rfl, rfl⟩) | (go_at_call 26; refine (own_all _ _).mono ?_; rintro e w' ⟨rfl, rfl⟩))
  refine bodyPost_ret (v := .tuple #[.agg #[.int .i64 ph, .int .i64 sp, .int .i64 no, .int .i64 si, .int .i64 tr], .agg #[.int .i64 0, .int .i64 0, .int .i64 0, .int .i64 0, .int .i64 0, .int .i64 0, .int .i64 0, .int .i64 0], .bool false]) (by simp [results, Try.results13, go_sem]) rfl ⟨rfl, ?_⟩
  repeat (first | (with_reducible exact Below.refl _ _) | (with_reducible refine bs_drewN ?_ _) | (with_reducible refine bs_drew ?_) | (with_reducible refine bs_alloc ?_ _) | (with_reducible refine bs_set ?_ _ (by first | (simp; done) | (simp; omega))) | (with_reducible refine bs_step ?_ (by assumption)))
set_option maxHeartbeats 2000000 in
set_option maxRecDepth 100000 in
theorem rhear_r0 (ph sp no si tr k st ws wn ch key f n fr me : Int) (w : World) (hv : validB ph sp no si tr = false) : Calls Try.prog 14 #[.agg #[.int .i64 ph, .int .i64 sp, .int .i64 no, .int .i64 si, .int .i64 tr], .int .i64 me, .agg #[.int .i64 k, .int .i64 st, .int .i64 ws, .int .i64 wn, .int .i64 ch, .int .i64 key, .int .i64 f, .int .i64 n], .int .i64 fr] w fun e w' => e = .returned (.tuple #[.agg #[.int .i64 ph, .int .i64 sp, .int .i64 no, .int .i64 si, .int .i64 tr], .agg #[.int .i64 0, .int .i64 0, .int .i64 0, .int .i64 0, .int .i64 0, .int .i64 0, .int .i64 0, .int .i64 0], .bool false]) ∧ Below w.heap.size w w' := by
  go_enter Try.func14, Try.ntmps14
  go_wp2_with (first | (go_at_call 19; refine (rvalid_all _ _ _ _ _ _).mono ?_; rintro e w' ⟨rfl, rfl⟩) | (go_at_call 21; refine (rformed_all _ _ _ _ _ _ _ _ _).mono ?_; rintro e w' ⟨rfl, rfl⟩))
  refine bodyPost_ret (v := .tuple #[.agg #[.int .i64 ph, .int .i64 sp, .int .i64 no, .int .i64 si, .int .i64 tr], .agg #[.int .i64 0, .int .i64 0, .int .i64 0, .int .i64 0, .int .i64 0, .int .i64 0, .int .i64 0, .int .i64 0], .bool false]) (by simp [results, Try.results14, go_sem]) rfl ⟨rfl, ?_⟩
  repeat (first | (with_reducible exact Below.refl _ _) | (with_reducible refine bs_drewN ?_ _) | (with_reducible refine bs_drew ?_) | (with_reducible refine bs_alloc ?_ _) | (with_reducible refine bs_set ?_ _ (by first | (simp; done) | (simp; omega))) | (with_reducible refine bs_step ?_ (by assumption)))
set_option maxHeartbeats 2000000 in
set_option maxRecDepth 100000 in
theorem rhear_r1 (ph sp no si tr k st ws wn ch key f n fr me : Int) (w : World) (hv : validB ph sp no si tr = true) (hf : formedB k st ws wn ch = false) : Calls Try.prog 14 #[.agg #[.int .i64 ph, .int .i64 sp, .int .i64 no, .int .i64 si, .int .i64 tr], .int .i64 me, .agg #[.int .i64 k, .int .i64 st, .int .i64 ws, .int .i64 wn, .int .i64 ch, .int .i64 key, .int .i64 f, .int .i64 n], .int .i64 fr] w fun e w' => e = .returned (.tuple #[.agg #[.int .i64 ph, .int .i64 sp, .int .i64 no, .int .i64 si, .int .i64 tr], .agg #[.int .i64 0, .int .i64 0, .int .i64 0, .int .i64 0, .int .i64 0, .int .i64 0, .int .i64 0, .int .i64 0], .bool false]) ∧ Below w.heap.size w w' := by
  go_enter Try.func14, Try.ntmps14
  go_wp2_with (first | (go_at_call 19; refine (rvalid_all _ _ _ _ _ _).mono ?_; rintro e w' ⟨rfl, rfl⟩) | (go_at_call 21; refine (rformed_all _ _ _ _ _ _ _ _ _).mono ?_; rintro e w' ⟨rfl, rfl⟩))
  refine bodyPost_ret (v := .tuple #[.agg #[.int .i64 ph, .int .i64 sp, .int .i64 no, .int .i64 si, .int .i64 tr], .agg #[.int .i64 0, .int .i64 0, .int .i64 0, .int .i64 0, .int .i64 0, .int .i64 0, .int .i64 0, .int .i64 0], .bool false]) (by simp [results, Try.results14, go_sem]) rfl ⟨rfl, ?_⟩
  repeat (first | (with_reducible exact Below.refl _ _) | (with_reducible refine bs_drewN ?_ _) | (with_reducible refine bs_drew ?_) | (with_reducible refine bs_alloc ?_ _) | (with_reducible refine bs_set ?_ _ (by first | (simp; done) | (simp; omega))) | (with_reducible refine bs_step ?_ (by assumption)))
set_option maxHeartbeats 2000000 in
set_option maxRecDepth 100000 in
theorem rhear_r2 (ph sp no si tr k st ws wn ch key f n fr me : Int) (w : World) (hv : validB ph sp no si tr = true) (hf : formedB k st ws wn ch = true) (f0 : fr < 0) : Calls Try.prog 14 #[.agg #[.int .i64 ph, .int .i64 sp, .int .i64 no, .int .i64 si, .int .i64 tr], .int .i64 me, .agg #[.int .i64 k, .int .i64 st, .int .i64 ws, .int .i64 wn, .int .i64 ch, .int .i64 key, .int .i64 f, .int .i64 n], .int .i64 fr] w fun e w' => e = .returned (.tuple #[.agg #[.int .i64 ph, .int .i64 sp, .int .i64 no, .int .i64 si, .int .i64 tr], .agg #[.int .i64 0, .int .i64 0, .int .i64 0, .int .i64 0, .int .i64 0, .int .i64 0, .int .i64 0, .int .i64 0], .bool false]) ∧ Below w.heap.size w w' := by
  have t0 : decide (fr < 0) = true := decide_eq_true f0
  go_enter Try.func14, Try.ntmps14
  go_wp2_with (first | (go_at_call 19; refine (rvalid_all _ _ _ _ _ _).mono ?_; rintro e w' ⟨rfl, rfl⟩) | (go_at_call 21; refine (rformed_all _ _ _ _ _ _ _ _ _).mono ?_; rintro e w' ⟨rfl, rfl⟩))
  refine bodyPost_ret (v := .tuple #[.agg #[.int .i64 ph, .int .i64 sp, .int .i64 no, .int .i64 si, .int .i64 tr], .agg #[.int .i64 0, .int .i64 0, .int .i64 0, .int .i64 0, .int .i64 0, .int .i64 0, .int .i64 0, .int .i64 0], .bool false]) (by simp [results, Try.results14, go_sem]) rfl ⟨rfl, ?_⟩
  repeat (first | (with_reducible exact Below.refl _ _) | (with_reducible refine bs_drewN ?_ _) | (with_reducible refine bs_drew ?_) | (with_reducible refine bs_alloc ?_ _) | (with_reducible refine bs_set ?_ _ (by first | (simp; done) | (simp; omega))) | (with_reducible refine bs_step ?_ (by assumption)))
set_option maxHeartbeats 2000000 in
set_option maxRecDepth 100000 in
theorem rhear_r3 (ph sp no si tr k st ws wn ch key f n fr me : Int) (w : World) (hv : validB ph sp no si tr = true) (hf : formedB k st ws wn ch = true) (f0 : 1000000000 < fr) : Calls Try.prog 14 #[.agg #[.int .i64 ph, .int .i64 sp, .int .i64 no, .int .i64 si, .int .i64 tr], .int .i64 me, .agg #[.int .i64 k, .int .i64 st, .int .i64 ws, .int .i64 wn, .int .i64 ch, .int .i64 key, .int .i64 f, .int .i64 n], .int .i64 fr] w fun e w' => e = .returned (.tuple #[.agg #[.int .i64 ph, .int .i64 sp, .int .i64 no, .int .i64 si, .int .i64 tr], .agg #[.int .i64 0, .int .i64 0, .int .i64 0, .int .i64 0, .int .i64 0, .int .i64 0, .int .i64 0, .int .i64 0], .bool false]) ∧ Below w.heap.size w w' := by
  have t0 : decide (fr < 0) = false := decide_eq_false (by omega)
  have t1 : decide (1000000000 < fr) = true := decide_eq_true f0
  go_enter Try.func14, Try.ntmps14
  go_wp2_with (first | (go_at_call 19; refine (rvalid_all _ _ _ _ _ _).mono ?_; rintro e w' ⟨rfl, rfl⟩) | (go_at_call 21; refine (rformed_all _ _ _ _ _ _ _ _ _).mono ?_; rintro e w' ⟨rfl, rfl⟩))
  refine bodyPost_ret (v := .tuple #[.agg #[.int .i64 ph, .int .i64 sp, .int .i64 no, .int .i64 si, .int .i64 tr], .agg #[.int .i64 0, .int .i64 0, .int .i64 0, .int .i64 0, .int .i64 0, .int .i64 0, .int .i64 0, .int .i64 0], .bool false]) (by simp [results, Try.results14, go_sem]) rfl ⟨rfl, ?_⟩
  repeat (first | (with_reducible exact Below.refl _ _) | (with_reducible refine bs_drewN ?_ _) | (with_reducible refine bs_drew ?_) | (with_reducible refine bs_alloc ?_ _) | (with_reducible refine bs_set ?_ _ (by first | (simp; done) | (simp; omega))) | (with_reducible refine bs_step ?_ (by assumption)))
set_option maxHeartbeats 2000000 in
set_option maxRecDepth 100000 in
theorem rhear_r4 (ph sp no si tr k st ws wn ch key f n fr me : Int) (w : World) (hv : validB ph sp no si tr = true) (hf : formedB k st ws wn ch = true) (f0 : 0 ≤ fr) (f1 : fr ≤ 1000000000) (h : st ≠ me) : Calls Try.prog 14 #[.agg #[.int .i64 ph, .int .i64 sp, .int .i64 no, .int .i64 si, .int .i64 tr], .int .i64 me, .agg #[.int .i64 k, .int .i64 st, .int .i64 ws, .int .i64 wn, .int .i64 ch, .int .i64 key, .int .i64 f, .int .i64 n], .int .i64 fr] w fun e w' => e = .returned (.tuple #[.agg #[.int .i64 ph, .int .i64 sp, .int .i64 no, .int .i64 si, .int .i64 tr], .agg #[.int .i64 0, .int .i64 0, .int .i64 0, .int .i64 0, .int .i64 0, .int .i64 0, .int .i64 0, .int .i64 0], .bool false]) ∧ Below w.heap.size w w' := by
  have t0 : decide (fr < 0) = false := decide_eq_false (by omega)
  have t1 : decide (1000000000 < fr) = false := decide_eq_false (by omega)
  have t2 : (st == me) = false := beq_eq_false_iff_ne.2 h
  have t3 : (st != me) = true := by rw [bne_iff_ne]; exact h
  clear h
  go_enter Try.func14, Try.ntmps14
  go_wp2_with (first | (go_at_call 19; refine (rvalid_all _ _ _ _ _ _).mono ?_; rintro e w' ⟨rfl, rfl⟩) | (go_at_call 21; refine (rformed_all _ _ _ _ _ _ _ _ _).mono ?_; rintro e w' ⟨rfl, rfl⟩))
  refine bodyPost_ret (v := .tuple #[.agg #[.int .i64 ph, .int .i64 sp, .int .i64 no, .int .i64 si, .int .i64 tr], .agg #[.int .i64 0, .int .i64 0, .int .i64 0, .int .i64 0, .int .i64 0, .int .i64 0, .int .i64 0, .int .i64 0], .bool false]) (by simp [results, Try.results14, go_sem]) rfl ⟨rfl, ?_⟩
  repeat (first | (with_reducible exact Below.refl _ _) | (with_reducible refine bs_drewN ?_ _) | (with_reducible refine bs_drew ?_) | (with_reducible refine bs_alloc ?_ _) | (with_reducible refine bs_set ?_ _ (by first | (simp; done) | (simp; omega))) | (with_reducible refine bs_step ?_ (by assumption)))
set_option maxHeartbeats 2000000 in
set_option maxRecDepth 100000 in
theorem rhear_r5 (ph sp no si tr k ws wn ch key f n fr me : Int) (w : World) (hv : validB ph sp no si tr = true) (hf : formedB k me ws wn ch = true) (f0 : 0 ≤ fr) (f1 : fr ≤ 1000000000) (h : ws ≠ sp) : Calls Try.prog 14 #[.agg #[.int .i64 ph, .int .i64 sp, .int .i64 no, .int .i64 si, .int .i64 tr], .int .i64 me, .agg #[.int .i64 k, .int .i64 me, .int .i64 ws, .int .i64 wn, .int .i64 ch, .int .i64 key, .int .i64 f, .int .i64 n], .int .i64 fr] w fun e w' => e = .returned (.tuple #[.agg #[.int .i64 ph, .int .i64 sp, .int .i64 no, .int .i64 si, .int .i64 tr], .agg #[.int .i64 0, .int .i64 0, .int .i64 0, .int .i64 0, .int .i64 0, .int .i64 0, .int .i64 0, .int .i64 0], .bool false]) ∧ Below w.heap.size w w' := by
  have t0 : decide (fr < 0) = false := decide_eq_false (by omega)
  have t1 : decide (1000000000 < fr) = false := decide_eq_false (by omega)
  have t2 : (ws == sp) = false := beq_eq_false_iff_ne.2 h
  have t3 : (ws != sp) = true := by rw [bne_iff_ne]; exact h
  clear h
  go_enter Try.func14, Try.ntmps14
  go_wp2_with (first | (go_at_call 19; refine (rvalid_all _ _ _ _ _ _).mono ?_; rintro e w' ⟨rfl, rfl⟩) | (go_at_call 21; refine (rformed_all _ _ _ _ _ _ _ _ _).mono ?_; rintro e w' ⟨rfl, rfl⟩))
  refine bodyPost_ret (v := .tuple #[.agg #[.int .i64 ph, .int .i64 sp, .int .i64 no, .int .i64 si, .int .i64 tr], .agg #[.int .i64 0, .int .i64 0, .int .i64 0, .int .i64 0, .int .i64 0, .int .i64 0, .int .i64 0, .int .i64 0], .bool false]) (by simp [results, Try.results14, go_sem]) rfl ⟨rfl, ?_⟩
  repeat (first | (with_reducible exact Below.refl _ _) | (with_reducible refine bs_drewN ?_ _) | (with_reducible refine bs_drew ?_) | (with_reducible refine bs_alloc ?_ _) | (with_reducible refine bs_set ?_ _ (by first | (simp; done) | (simp; omega))) | (with_reducible refine bs_step ?_ (by assumption)))
set_option maxHeartbeats 2000000 in
set_option maxRecDepth 100000 in
theorem rhear_r6 (ph sp no si tr k wn ch key f n fr me : Int) (w : World) (hv : validB ph sp no si tr = true) (hf : formedB k me sp wn ch = true) (f0 : 0 ≤ fr) (f1 : fr ≤ 1000000000) (h : wn ≠ no) : Calls Try.prog 14 #[.agg #[.int .i64 ph, .int .i64 sp, .int .i64 no, .int .i64 si, .int .i64 tr], .int .i64 me, .agg #[.int .i64 k, .int .i64 me, .int .i64 sp, .int .i64 wn, .int .i64 ch, .int .i64 key, .int .i64 f, .int .i64 n], .int .i64 fr] w fun e w' => e = .returned (.tuple #[.agg #[.int .i64 ph, .int .i64 sp, .int .i64 no, .int .i64 si, .int .i64 tr], .agg #[.int .i64 0, .int .i64 0, .int .i64 0, .int .i64 0, .int .i64 0, .int .i64 0, .int .i64 0, .int .i64 0], .bool false]) ∧ Below w.heap.size w w' := by
  have t0 : decide (fr < 0) = false := decide_eq_false (by omega)
  have t1 : decide (1000000000 < fr) = false := decide_eq_false (by omega)
  have t2 : (wn == no) = false := beq_eq_false_iff_ne.2 h
  have t3 : (wn != no) = true := by rw [bne_iff_ne]; exact h
  clear h
  go_enter Try.func14, Try.ntmps14
  go_wp2_with (first | (go_at_call 19; refine (rvalid_all _ _ _ _ _ _).mono ?_; rintro e w' ⟨rfl, rfl⟩) | (go_at_call 21; refine (rformed_all _ _ _ _ _ _ _ _ _).mono ?_; rintro e w' ⟨rfl, rfl⟩))
  refine bodyPost_ret (v := .tuple #[.agg #[.int .i64 ph, .int .i64 sp, .int .i64 no, .int .i64 si, .int .i64 tr], .agg #[.int .i64 0, .int .i64 0, .int .i64 0, .int .i64 0, .int .i64 0, .int .i64 0, .int .i64 0, .int .i64 0], .bool false]) (by simp [results, Try.results14, go_sem]) rfl ⟨rfl, ?_⟩
  repeat (first | (with_reducible exact Below.refl _ _) | (with_reducible refine bs_drewN ?_ _) | (with_reducible refine bs_drew ?_) | (with_reducible refine bs_alloc ?_ _) | (with_reducible refine bs_set ?_ _ (by first | (simp; done) | (simp; omega))) | (with_reducible refine bs_step ?_ (by assumption)))
/-- Is the word one that a stranger may take up? -/
def hearP (ph sp no si tr k st ws wn ch fr me : Int) : Prop := validB ph sp no si tr = true ∧ formedB k st ws wn ch = true ∧ 0 ≤ fr ∧ fr ≤ 1000000000 ∧ st = me ∧ ws = sp ∧ wn = no
theorem hear_refused (ph sp no si tr k st ws wn ch key f n fr me : Int) (w : World) (h : ¬ hearP ph sp no si tr k st ws wn ch fr me) : Calls Try.prog 13 #[.agg #[.int .i64 ph, .int .i64 sp, .int .i64 no, .int .i64 si, .int .i64 tr], .int .i64 me, .agg #[.int .i64 k, .int .i64 st, .int .i64 ws, .int .i64 wn, .int .i64 ch, .int .i64 key, .int .i64 f, .int .i64 n], .int .i64 fr] w fun e w' => e = .returned (.tuple #[.agg #[.int .i64 ph, .int .i64 sp, .int .i64 no, .int .i64 si, .int .i64 tr], .agg #[.int .i64 0, .int .i64 0, .int .i64 0, .int .i64 0, .int .i64 0, .int .i64 0, .int .i64 0, .int .i64 0], .bool false]) ∧ Below w.heap.size w w' := by
  unfold hearP at h
  by_cases hv : validB ph sp no si tr = true
  rotate_left
  · exact hear_r0 _ _ _ _ _ _ _ _ _ _ _ _ _ _ _ w (by simpa using hv)
  by_cases hf : formedB k st ws wn ch = true
  rotate_left
  · exact hear_r1 _ _ _ _ _ _ _ _ _ _ _ _ _ _ _ w hv (by simpa using hf)
  by_cases f0 : 0 ≤ fr
  rotate_left
  · exact hear_r2 _ _ _ _ _ _ _ _ _ _ _ _ _ _ _ w hv hf (by omega)
  by_cases f1 : fr ≤ 1000000000
  rotate_left
  · exact hear_r3 _ _ _ _ _ _ _ _ _ _ _ _ _ _ _ w hv hf (by omega)
  by_cases h1 : st = me
  rotate_left
  · exact hear_r4 _ _ _ _ _ _ _ _ _ _ _ _ _ _ _ w hv hf f0 f1 h1
  subst h1
  by_cases h2 : ws = sp
  rotate_left
  · exact hear_r5 _ _ _ _ _ _ _ _ _ _ _ _ _ _ w hv hf f0 f1 h2
  subst h2
  by_cases h3 : wn = no
  rotate_left
  · exact hear_r6 _ _ _ _ _ _ _ _ _ _ _ _ _ w hv hf f0 f1 h3
  exact absurd ⟨hv, hf, f0, f1, rfl, rfl, h3⟩ h
theorem rhear_refused (ph sp no si tr k st ws wn ch key f n fr me : Int) (w : World) (h : ¬ hearP ph sp no si tr k st ws wn ch fr me) : Calls Try.prog 14 #[.agg #[.int .i64 ph, .int .i64 sp, .int .i64 no, .int .i64 si, .int .i64 tr], .int .i64 me, .agg #[.int .i64 k, .int .i64 st, .int .i64 ws, .int .i64 wn, .int .i64 ch, .int .i64 key, .int .i64 f, .int .i64 n], .int .i64 fr] w fun e w' => e = .returned (.tuple #[.agg #[.int .i64 ph, .int .i64 sp, .int .i64 no, .int .i64 si, .int .i64 tr], .agg #[.int .i64 0, .int .i64 0, .int .i64 0, .int .i64 0, .int .i64 0, .int .i64 0, .int .i64 0, .int .i64 0], .bool false]) ∧ Below w.heap.size w w' := by
  unfold hearP at h
  by_cases hv : validB ph sp no si tr = true
  rotate_left
  · exact rhear_r0 _ _ _ _ _ _ _ _ _ _ _ _ _ _ _ w (by simpa using hv)
  by_cases hf : formedB k st ws wn ch = true
  rotate_left
  · exact rhear_r1 _ _ _ _ _ _ _ _ _ _ _ _ _ _ _ w hv (by simpa using hf)
  by_cases f0 : 0 ≤ fr
  rotate_left
  · exact rhear_r2 _ _ _ _ _ _ _ _ _ _ _ _ _ _ _ w hv hf (by omega)
  by_cases f1 : fr ≤ 1000000000
  rotate_left
  · exact rhear_r3 _ _ _ _ _ _ _ _ _ _ _ _ _ _ _ w hv hf (by omega)
  by_cases h1 : st = me
  rotate_left
  · exact rhear_r4 _ _ _ _ _ _ _ _ _ _ _ _ _ _ _ w hv hf f0 f1 h1
  subst h1
  by_cases h2 : ws = sp
  rotate_left
  · exact rhear_r5 _ _ _ _ _ _ _ _ _ _ _ _ _ _ w hv hf f0 f1 h2
  subst h2
  by_cases h3 : wn = no
  rotate_left
  · exact rhear_r6 _ _ _ _ _ _ _ _ _ _ _ _ _ w hv hf f0 f1 h3
  exact absurd ⟨hv, hf, f0, f1, rfl, rfl, h3⟩ h
end Go.Proofs.Yteiiglefbbhinaa
