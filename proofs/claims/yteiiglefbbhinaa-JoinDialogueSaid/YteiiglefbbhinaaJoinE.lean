/-
  Late, and the reference's.
-/
import Derived.Test.YteiiglefbbhinaaJoinB
import Derived.Test.YteiiglefbbhinaaJoinC
namespace Go.Proofs.Yteiiglefbbhinaa
open Go.RowKit
set_option linter.unusedVariables false
set_option linter.unusedSimpArgs false
theorem valid_si {ph sp no si tr : Int} (h : validB ph sp no si tr = true) : (0 ≤ ph ∧ ph ≤ 3) ∧ (-1 ≤ sp ∧ sp < 60) ∧ (0 ≤ no ∧ no ≤ 1000000000) ∧ (0 ≤ si ∧ si ≤ 1000000000) ∧ (0 ≤ tr ∧ tr ≤ 255) := by
  unfold validB at h; have := of_decide_eq_true h; omega
set_option maxHeartbeats 2000000 in
set_option maxRecDepth 100000 in
theorem late_a (ph sp no si tr fr : Int) (w : World) (hv : validB ph sp no si tr = false) : Calls Try.prog 17 #[.agg #[.int .i64 ph, .int .i64 sp, .int .i64 no, .int .i64 si, .int .i64 tr], .int .i64 fr] w fun e w' => e = .returned (.agg #[.int .i64 ph, .int .i64 sp, .int .i64 no, .int .i64 si, .int .i64 tr]) ∧ Below w.heap.size w w' := by
  go_enter Try.func17, Try.ntmps17
  go_wp2_with (first | (go_at_call 22; refine (valid_all _ ph sp no si tr _ ?a0 ?a1 ?a2 ?a3 ?a4).mono ?_; (case a0 => go_simp); (case a1 => go_simp); (case a2 => go_simp); (case a3 => go_simp); (case a4 => go_simp); rintro e w' ⟨rfl, rfl⟩))
  refine bodyPost_ret (v := .agg #[.int .i64 ph, .int .i64 sp, .int .i64 no, .int .i64 si, .int .i64 tr]) (by simp [results, Try.results17, go_sem]) rfl ⟨rfl, ?_⟩
  repeat (first | (with_reducible exact Below.refl _ _) | (with_reducible refine bs_drewN ?_ _) | (with_reducible refine bs_drew ?_) | (with_reducible refine bs_alloc ?_ _) | (with_reducible refine bs_set ?_ _ (by first | (simp; done) | (simp; omega))) | (with_reducible refine bs_step ?_ (by assumption)))
set_option maxHeartbeats 2000000 in
set_option maxRecDepth 100000 in
theorem late_b (ph sp no si tr fr : Int) (w : World) (hv : validB ph sp no si tr = true) (hp : ph ≠ 1) (hq : ph ≠ 2) : Calls Try.prog 17 #[.agg #[.int .i64 ph, .int .i64 sp, .int .i64 no, .int .i64 si, .int .i64 tr], .int .i64 fr] w fun e w' => e = .returned (.agg #[.int .i64 ph, .int .i64 sp, .int .i64 no, .int .i64 si, .int .i64 tr]) ∧ Below w.heap.size w w' := by
  obtain ⟨_, _, _, ⟨s0, s1⟩, _⟩ := valid_si hv
  have t0 : (ph == 1) = false := beq_eq_false_iff_ne.2 hp
  have t1 : (ph == 2) = false := beq_eq_false_iff_ne.2 hq
  clear hp hq
  go_enter Try.func17, Try.ntmps17
  go_wp2_with (first | (go_at_call 22; refine (valid_all _ ph sp no si tr _ ?a0 ?a1 ?a2 ?a3 ?a4).mono ?_; (case a0 => go_simp); (case a1 => go_simp); (case a2 => go_simp); (case a3 => go_simp); (case a4 => go_simp); rintro e w' ⟨rfl, rfl⟩))
  refine bodyPost_ret (v := .agg #[.int .i64 ph, .int .i64 sp, .int .i64 no, .int .i64 si, .int .i64 tr]) (by simp [results, Try.results17, go_sem]) rfl ⟨rfl, ?_⟩
  repeat (first | (with_reducible exact Below.refl _ _) | (with_reducible refine bs_drewN ?_ _) | (with_reducible refine bs_drew ?_) | (with_reducible refine bs_alloc ?_ _) | (with_reducible refine bs_set ?_ _ (by first | (simp; done) | (simp; omega))) | (with_reducible refine bs_step ?_ (by assumption)))
set_option maxHeartbeats 2000000 in
set_option maxRecDepth 100000 in
theorem late_c1 (sp no si tr fr : Int) (w : World) (hv : validB 1 sp no si tr = true) (hf : fr < si + 12) : Calls Try.prog 17 #[.agg #[.int .i64 1, .int .i64 sp, .int .i64 no, .int .i64 si, .int .i64 tr], .int .i64 fr] w fun e w' => e = .returned (.agg #[.int .i64 1, .int .i64 sp, .int .i64 no, .int .i64 si, .int .i64 tr]) ∧ Below w.heap.size w w' := by
  obtain ⟨_, _, _, ⟨s0, s1⟩, _⟩ := valid_si hv
  have t0 : decide (si + 12 ≤ fr) = false := decide_eq_false (by omega)
  go_enter Try.func17, Try.ntmps17
  go_wp2_with (first | (go_at_call 22; refine (valid_all _ 1 sp no si tr _ ?a0 ?a1 ?a2 ?a3 ?a4).mono ?_; (case a0 => go_simp); (case a1 => go_simp); (case a2 => go_simp); (case a3 => go_simp); (case a4 => go_simp); rintro e w' ⟨rfl, rfl⟩))
  refine bodyPost_ret (v := .agg #[.int .i64 1, .int .i64 sp, .int .i64 no, .int .i64 si, .int .i64 tr]) (by simp [results, Try.results17, go_sem]) rfl ⟨rfl, ?_⟩
  repeat (first | (with_reducible exact Below.refl _ _) | (with_reducible refine bs_drewN ?_ _) | (with_reducible refine bs_drew ?_) | (with_reducible refine bs_alloc ?_ _) | (with_reducible refine bs_set ?_ _ (by first | (simp; done) | (simp; omega))) | (with_reducible refine bs_step ?_ (by assumption)))
set_option maxHeartbeats 2000000 in
set_option maxRecDepth 100000 in
theorem late_c2 (sp no si tr fr : Int) (w : World) (hv : validB 2 sp no si tr = true) (hf : fr < si + 12) : Calls Try.prog 17 #[.agg #[.int .i64 2, .int .i64 sp, .int .i64 no, .int .i64 si, .int .i64 tr], .int .i64 fr] w fun e w' => e = .returned (.agg #[.int .i64 2, .int .i64 sp, .int .i64 no, .int .i64 si, .int .i64 tr]) ∧ Below w.heap.size w w' := by
  obtain ⟨_, _, _, ⟨s0, s1⟩, _⟩ := valid_si hv
  have t0 : decide (si + 12 ≤ fr) = false := decide_eq_false (by omega)
  go_enter Try.func17, Try.ntmps17
  go_wp2_with (first | (go_at_call 22; refine (valid_all _ 2 sp no si tr _ ?a0 ?a1 ?a2 ?a3 ?a4).mono ?_; (case a0 => go_simp); (case a1 => go_simp); (case a2 => go_simp); (case a3 => go_simp); (case a4 => go_simp); rintro e w' ⟨rfl, rfl⟩))
  refine bodyPost_ret (v := .agg #[.int .i64 2, .int .i64 sp, .int .i64 no, .int .i64 si, .int .i64 tr]) (by simp [results, Try.results17, go_sem]) rfl ⟨rfl, ?_⟩
  repeat (first | (with_reducible exact Below.refl _ _) | (with_reducible refine bs_drewN ?_ _) | (with_reducible refine bs_drew ?_) | (with_reducible refine bs_alloc ?_ _) | (with_reducible refine bs_set ?_ _ (by first | (simp; done) | (simp; omega))) | (with_reducible refine bs_step ?_ (by assumption)))
set_option maxHeartbeats 2000000 in
set_option maxRecDepth 100000 in
theorem late_d1 (sp no si tr fr : Int) (w : World) (hv : validB 1 sp no si tr = true) (hf : si + 12 ≤ fr) : Calls Try.prog 17 #[.agg #[.int .i64 1, .int .i64 sp, .int .i64 no, .int .i64 si, .int .i64 tr], .int .i64 fr] w fun e w' => e = .returned (.agg #[.int .i64 0, .int .i64 (-1), .int .i64 0, .int .i64 0, .int .i64 tr]) ∧ Below w.heap.size w w' := by
  obtain ⟨_, _, _, ⟨s0, s1⟩, _⟩ := valid_si hv
  have t0 : decide (si + 12 ≤ fr) = true := decide_eq_true hf
  go_enter Try.func17, Try.ntmps17
  go_wp2_with (first | (go_at_call 22; refine (valid_all _ 1 sp no si tr _ ?a0 ?a1 ?a2 ?a3 ?a4).mono ?_; (case a0 => go_simp); (case a1 => go_simp); (case a2 => go_simp); (case a3 => go_simp); (case a4 => go_simp); rintro e w' ⟨rfl, rfl⟩))
  refine bodyPost_ret (v := .agg #[.int .i64 0, .int .i64 (-1), .int .i64 0, .int .i64 0, .int .i64 tr]) (by simp [results, Try.results17, go_sem]) rfl ⟨rfl, ?_⟩
  repeat (first | (with_reducible exact Below.refl _ _) | (with_reducible refine bs_drewN ?_ _) | (with_reducible refine bs_drew ?_) | (with_reducible refine bs_alloc ?_ _) | (with_reducible refine bs_set ?_ _ (by first | (simp; done) | (simp; omega))) | (with_reducible refine bs_step ?_ (by assumption)))
set_option maxHeartbeats 2000000 in
set_option maxRecDepth 100000 in
theorem late_d2 (sp no si tr fr : Int) (w : World) (hv : validB 2 sp no si tr = true) (hf : si + 12 ≤ fr) : Calls Try.prog 17 #[.agg #[.int .i64 2, .int .i64 sp, .int .i64 no, .int .i64 si, .int .i64 tr], .int .i64 fr] w fun e w' => e = .returned (.agg #[.int .i64 0, .int .i64 (-1), .int .i64 0, .int .i64 0, .int .i64 tr]) ∧ Below w.heap.size w w' := by
  obtain ⟨_, _, _, ⟨s0, s1⟩, _⟩ := valid_si hv
  have t0 : decide (si + 12 ≤ fr) = true := decide_eq_true hf
  go_enter Try.func17, Try.ntmps17
  go_wp2_with (first | (go_at_call 22; refine (valid_all _ 2 sp no si tr _ ?a0 ?a1 ?a2 ?a3 ?a4).mono ?_; (case a0 => go_simp); (case a1 => go_simp); (case a2 => go_simp); (case a3 => go_simp); (case a4 => go_simp); rintro e w' ⟨rfl, rfl⟩))
  refine bodyPost_ret (v := .agg #[.int .i64 0, .int .i64 (-1), .int .i64 0, .int .i64 0, .int .i64 tr]) (by simp [results, Try.results17, go_sem]) rfl ⟨rfl, ?_⟩
  repeat (first | (with_reducible exact Below.refl _ _) | (with_reducible refine bs_drewN ?_ _) | (with_reducible refine bs_drew ?_) | (with_reducible refine bs_alloc ?_ _) | (with_reducible refine bs_set ?_ _ (by first | (simp; done) | (simp; omega))) | (with_reducible refine bs_step ?_ (by assumption)))
/-- Is it late? -/
def lateP (ph sp no si tr fr : Int) : Prop := validB ph sp no si tr = true ∧ (ph = 1 ∨ ph = 2) ∧ si + 12 ≤ fr
theorem late_yes (ph sp no si tr fr : Int) (w : World) (h : lateP ph sp no si tr fr) : Calls Try.prog 17 #[.agg #[.int .i64 ph, .int .i64 sp, .int .i64 no, .int .i64 si, .int .i64 tr], .int .i64 fr] w fun e w' => e = .returned (.agg #[.int .i64 0, .int .i64 (-1), .int .i64 0, .int .i64 0, .int .i64 tr]) ∧ Below w.heap.size w w' := by
  obtain ⟨hv, rfl | rfl, hf⟩ := h
  · exact late_d1 _ _ _ _ _ w hv hf
  · exact late_d2 _ _ _ _ _ w hv hf
theorem late_no (ph sp no si tr fr : Int) (w : World) (h : ¬ lateP ph sp no si tr fr) : Calls Try.prog 17 #[.agg #[.int .i64 ph, .int .i64 sp, .int .i64 no, .int .i64 si, .int .i64 tr], .int .i64 fr] w fun e w' => e = .returned (.agg #[.int .i64 ph, .int .i64 sp, .int .i64 no, .int .i64 si, .int .i64 tr]) ∧ Below w.heap.size w w' := by
  unfold lateP at h
  by_cases hv : validB ph sp no si tr = true
  · by_cases h1 : ph = 1
    · subst h1; exact late_c1 _ _ _ _ _ w hv (Int.not_le.1 fun x => h ⟨hv, .inl rfl, x⟩)
    by_cases h2 : ph = 2
    · subst h2; exact late_c2 _ _ _ _ _ w hv (Int.not_le.1 fun x => h ⟨hv, .inr rfl, x⟩)
    · exact late_b _ _ _ _ _ _ w hv h1 h2
  · exact late_a _ _ _ _ _ _ w (by simpa using hv)
set_option maxHeartbeats 2000000 in
set_option maxRecDepth 100000 in
theorem rlate_a (ph sp no si tr fr : Int) (w : World) (hv : validB ph sp no si tr = false) : Calls Try.prog 18 #[.agg #[.int .i64 ph, .int .i64 sp, .int .i64 no, .int .i64 si, .int .i64 tr], .int .i64 fr] w fun e w' => e = .returned (.agg #[.int .i64 ph, .int .i64 sp, .int .i64 no, .int .i64 si, .int .i64 tr]) ∧ Below w.heap.size w w' := by
  go_enter Try.func18, Try.ntmps18
  go_wp2_with (first | (go_at_call 19; refine (rvalid_all _ _ _ _ _ _).mono ?_; rintro e w' ⟨rfl, rfl⟩))
  refine bodyPost_ret (v := .agg #[.int .i64 ph, .int .i64 sp, .int .i64 no, .int .i64 si, .int .i64 tr]) (by simp [results, Try.results18, go_sem]) rfl ⟨rfl, ?_⟩
  repeat (first | (with_reducible exact Below.refl _ _) | (with_reducible refine bs_drewN ?_ _) | (with_reducible refine bs_drew ?_) | (with_reducible refine bs_alloc ?_ _) | (with_reducible refine bs_set ?_ _ (by first | (simp; done) | (simp; omega))) | (with_reducible refine bs_step ?_ (by assumption)))
set_option maxHeartbeats 2000000 in
set_option maxRecDepth 100000 in
theorem rlate_b (ph sp no si tr fr : Int) (w : World) (hv : validB ph sp no si tr = true) (hp : ph ≠ 1) (hq : ph ≠ 2) : Calls Try.prog 18 #[.agg #[.int .i64 ph, .int .i64 sp, .int .i64 no, .int .i64 si, .int .i64 tr], .int .i64 fr] w fun e w' => e = .returned (.agg #[.int .i64 ph, .int .i64 sp, .int .i64 no, .int .i64 si, .int .i64 tr]) ∧ Below w.heap.size w w' := by
  obtain ⟨_, _, _, ⟨s0, s1⟩, _⟩ := valid_si hv
  have t0 : (ph == 1) = false := beq_eq_false_iff_ne.2 hp
  have t1 : (ph == 2) = false := beq_eq_false_iff_ne.2 hq
  clear hp hq
  go_enter Try.func18, Try.ntmps18
  go_wp2_with (first | (go_at_call 19; refine (rvalid_all _ _ _ _ _ _).mono ?_; rintro e w' ⟨rfl, rfl⟩))
  refine bodyPost_ret (v := .agg #[.int .i64 ph, .int .i64 sp, .int .i64 no, .int .i64 si, .int .i64 tr]) (by simp [results, Try.results18, go_sem]) rfl ⟨rfl, ?_⟩
  repeat (first | (with_reducible exact Below.refl _ _) | (with_reducible refine bs_drewN ?_ _) | (with_reducible refine bs_drew ?_) | (with_reducible refine bs_alloc ?_ _) | (with_reducible refine bs_set ?_ _ (by first | (simp; done) | (simp; omega))) | (with_reducible refine bs_step ?_ (by assumption)))
set_option maxHeartbeats 2000000 in
set_option maxRecDepth 100000 in
theorem rlate_c1 (sp no si tr fr : Int) (w : World) (hv : validB 1 sp no si tr = true) (hf : fr < si + 12) : Calls Try.prog 18 #[.agg #[.int .i64 1, .int .i64 sp, .int .i64 no, .int .i64 si, .int .i64 tr], .int .i64 fr] w fun e w' => e = .returned (.agg #[.int .i64 1, .int .i64 sp, .int .i64 no, .int .i64 si, .int .i64 tr]) ∧ Below w.heap.size w w' := by
  obtain ⟨_, _, _, ⟨s0, s1⟩, _⟩ := valid_si hv
  have t0 : decide (si + 12 ≤ fr) = false := decide_eq_false (by omega)
  go_enter Try.func18, Try.ntmps18
  go_wp2_with (first | (go_at_call 19; refine (rvalid_all _ _ _ _ _ _).mono ?_; rintro e w' ⟨rfl, rfl⟩))
  refine bodyPost_ret (v := .agg #[.int .i64 1, .int .i64 sp, .int .i64 no, .int .i64 si, .int .i64 tr]) (by simp [results, Try.results18, go_sem]) rfl ⟨rfl, ?_⟩
  repeat (first | (with_reducible exact Below.refl _ _) | (with_reducible refine bs_drewN ?_ _) | (with_reducible refine bs_drew ?_) | (with_reducible refine bs_alloc ?_ _) | (with_reducible refine bs_set ?_ _ (by first | (simp; done) | (simp; omega))) | (with_reducible refine bs_step ?_ (by assumption)))
set_option maxHeartbeats 2000000 in
set_option maxRecDepth 100000 in
theorem rlate_c2 (sp no si tr fr : Int) (w : World) (hv : validB 2 sp no si tr = true) (hf : fr < si + 12) : Calls Try.prog 18 #[.agg #[.int .i64 2, .int .i64 sp, .int .i64 no, .int .i64 si, .int .i64 tr], .int .i64 fr] w fun e w' => e = .returned (.agg #[.int .i64 2, .int .i64 sp, .int .i64 no, .int .i64 si, .int .i64 tr]) ∧ Below w.heap.size w w' := by
  obtain ⟨_, _, _, ⟨s0, s1⟩, _⟩ := valid_si hv
  have t0 : decide (si + 12 ≤ fr) = false := decide_eq_false (by omega)
  go_enter Try.func18, Try.ntmps18
  go_wp2_with (first | (go_at_call 19; refine (rvalid_all _ _ _ _ _ _).mono ?_; rintro e w' ⟨rfl, rfl⟩))
  refine bodyPost_ret (v := .agg #[.int .i64 2, .int .i64 sp, .int .i64 no, .int .i64 si, .int .i64 tr]) (by simp [results, Try.results18, go_sem]) rfl ⟨rfl, ?_⟩
  repeat (first | (with_reducible exact Below.refl _ _) | (with_reducible refine bs_drewN ?_ _) | (with_reducible refine bs_drew ?_) | (with_reducible refine bs_alloc ?_ _) | (with_reducible refine bs_set ?_ _ (by first | (simp; done) | (simp; omega))) | (with_reducible refine bs_step ?_ (by assumption)))
set_option maxHeartbeats 2000000 in
set_option maxRecDepth 100000 in
theorem rlate_d1 (sp no si tr fr : Int) (w : World) (hv : validB 1 sp no si tr = true) (hf : si + 12 ≤ fr) : Calls Try.prog 18 #[.agg #[.int .i64 1, .int .i64 sp, .int .i64 no, .int .i64 si, .int .i64 tr], .int .i64 fr] w fun e w' => e = .returned (.agg #[.int .i64 0, .int .i64 (-1), .int .i64 0, .int .i64 0, .int .i64 tr]) ∧ Below w.heap.size w w' := by
  obtain ⟨_, _, _, ⟨s0, s1⟩, _⟩ := valid_si hv
  have t0 : decide (si + 12 ≤ fr) = true := decide_eq_true hf
  go_enter Try.func18, Try.ntmps18
  go_wp2_with (first | (go_at_call 19; refine (rvalid_all _ _ _ _ _ _).mono ?_; rintro e w' ⟨rfl, rfl⟩))
  refine bodyPost_ret (v := .agg #[.int .i64 0, .int .i64 (-1), .int .i64 0, .int .i64 0, .int .i64 tr]) (by simp [results, Try.results18, go_sem]) rfl ⟨rfl, ?_⟩
  repeat (first | (with_reducible exact Below.refl _ _) | (with_reducible refine bs_drewN ?_ _) | (with_reducible refine bs_drew ?_) | (with_reducible refine bs_alloc ?_ _) | (with_reducible refine bs_set ?_ _ (by first | (simp; done) | (simp; omega))) | (with_reducible refine bs_step ?_ (by assumption)))
set_option maxHeartbeats 2000000 in
set_option maxRecDepth 100000 in
theorem rlate_d2 (sp no si tr fr : Int) (w : World) (hv : validB 2 sp no si tr = true) (hf : si + 12 ≤ fr) : Calls Try.prog 18 #[.agg #[.int .i64 2, .int .i64 sp, .int .i64 no, .int .i64 si, .int .i64 tr], .int .i64 fr] w fun e w' => e = .returned (.agg #[.int .i64 0, .int .i64 (-1), .int .i64 0, .int .i64 0, .int .i64 tr]) ∧ Below w.heap.size w w' := by
  obtain ⟨_, _, _, ⟨s0, s1⟩, _⟩ := valid_si hv
  have t0 : decide (si + 12 ≤ fr) = true := decide_eq_true hf
  go_enter Try.func18, Try.ntmps18
  go_wp2_with (first | (go_at_call 19; refine (rvalid_all _ _ _ _ _ _).mono ?_; rintro e w' ⟨rfl, rfl⟩))
  refine bodyPost_ret (v := .agg #[.int .i64 0, .int .i64 (-1), .int .i64 0, .int .i64 0, .int .i64 tr]) (by simp [results, Try.results18, go_sem]) rfl ⟨rfl, ?_⟩
  repeat (first | (with_reducible exact Below.refl _ _) | (with_reducible refine bs_drewN ?_ _) | (with_reducible refine bs_drew ?_) | (with_reducible refine bs_alloc ?_ _) | (with_reducible refine bs_set ?_ _ (by first | (simp; done) | (simp; omega))) | (with_reducible refine bs_step ?_ (by assumption)))
theorem rlate_yes (ph sp no si tr fr : Int) (w : World) (h : lateP ph sp no si tr fr) : Calls Try.prog 18 #[.agg #[.int .i64 ph, .int .i64 sp, .int .i64 no, .int .i64 si, .int .i64 tr], .int .i64 fr] w fun e w' => e = .returned (.agg #[.int .i64 0, .int .i64 (-1), .int .i64 0, .int .i64 0, .int .i64 tr]) ∧ Below w.heap.size w w' := by
  obtain ⟨hv, rfl | rfl, hf⟩ := h
  · exact rlate_d1 _ _ _ _ _ w hv hf
  · exact rlate_d2 _ _ _ _ _ w hv hf
theorem rlate_no (ph sp no si tr fr : Int) (w : World) (h : ¬ lateP ph sp no si tr fr) : Calls Try.prog 18 #[.agg #[.int .i64 ph, .int .i64 sp, .int .i64 no, .int .i64 si, .int .i64 tr], .int .i64 fr] w fun e w' => e = .returned (.agg #[.int .i64 ph, .int .i64 sp, .int .i64 no, .int .i64 si, .int .i64 tr]) ∧ Below w.heap.size w w' := by
  unfold lateP at h
  by_cases hv : validB ph sp no si tr = true
  · by_cases h1 : ph = 1
    · subst h1; exact rlate_c1 _ _ _ _ _ w hv (Int.not_le.1 fun x => h ⟨hv, .inl rfl, x⟩)
    by_cases h2 : ph = 2
    · subst h2; exact rlate_c2 _ _ _ _ _ w hv (Int.not_le.1 fun x => h ⟨hv, .inr rfl, x⟩)
    · exact rlate_b _ _ _ _ _ _ w hv h1 h2
  · exact rlate_a _ _ _ _ _ _ w (by simpa using hv)
end Go.Proofs.Yteiiglefbbhinaa
