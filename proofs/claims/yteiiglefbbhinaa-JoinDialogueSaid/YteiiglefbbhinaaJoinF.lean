/-
  Judge, and the reference's.
-/
import Derived.Test.YteiiglefbbhinaaJoinD
import Derived.Test.YteiiglefbbhinaaOwn
namespace Go.Proofs.Yteiiglefbbhinaa
open Go.RowKit
set_option linter.unusedVariables false
set_option linter.unusedSimpArgs false
theorem formed_of {k st ws wn ch : Int} (h : formedB k st ws wn ch = true) : (0 ≤ st ∧ st < 60) ∧ (0 ≤ ws ∧ ws < 60) ∧ st ≠ ws ∧ (0 ≤ wn ∧ wn ≤ 1000000000) ∧ (0 ≤ ch ∧ ch ≤ 1000000000) ∧ 1 ≤ k ∧ k ≤ 4 := by
  unfold formedB at h
  have := of_decide_eq_true h
  unfold nodeB at this
  simp only [decide_eq_true_eq] at this
  omega
/-- May the root judge it? -/
def judgeP (k st ws wn ch x y : Int) : Prop := formedB k st ws wn ch = true ∧ 0 ≤ x ∧ x < y ∧ y ≤ 1000000000
set_option maxHeartbeats 2000000 in
set_option maxRecDepth 100000 in
theorem judge_a0 (k st ws wn ch key f n x y : Int) (w : World) (hf : formedB k st ws wn ch = false) : Calls Try.prog 15 #[.agg #[.int .i64 k, .int .i64 st, .int .i64 ws, .int .i64 wn, .int .i64 ch, .int .i64 key, .int .i64 f, .int .i64 n], .agg #[.int .i64 x, .int .i64 y]] w fun e w' => e = .returned (.tuple #[.agg #[.int .i64 0, .int .i64 0, .int .i64 0, .int .i64 0, .int .i64 0, .int .i64 0, .int .i64 0, .int .i64 0], .int .i64 1]) ∧ Below w.heap.size w w' := by
  go_enter Try.func15, Try.ntmps15
  go_wp2_with (first | (go_at_call 27; refine (formed_all _ _ _ _ _ _ _ _ _).mono ?_; rintro e w' ⟨rfl, rfl⟩))
  refine bodyPost_ret (v := .tuple #[.agg #[.int .i64 0, .int .i64 0, .int .i64 0, .int .i64 0, .int .i64 0, .int .i64 0, .int .i64 0, .int .i64 0], .int .i64 1]) (by simp [results, Try.results15, go_sem]) rfl ⟨rfl, ?_⟩
  repeat (first | (with_reducible exact Below.refl _ _) | (with_reducible refine bs_drewN ?_ _) | (with_reducible refine bs_drew ?_) | (with_reducible refine bs_alloc ?_ _) | (with_reducible refine bs_set ?_ _ (by first | (simp; done) | (simp; omega))) | (with_reducible refine bs_step ?_ (by assumption)))
set_option maxHeartbeats 2000000 in
set_option maxRecDepth 100000 in
theorem judge_a1 (k st ws wn ch key f n x y : Int) (w : World) (hf : formedB k st ws wn ch = true) (g1 : ¬ 0 ≤ x) : Calls Try.prog 15 #[.agg #[.int .i64 k, .int .i64 st, .int .i64 ws, .int .i64 wn, .int .i64 ch, .int .i64 key, .int .i64 f, .int .i64 n], .agg #[.int .i64 x, .int .i64 y]] w fun e w' => e = .returned (.tuple #[.agg #[.int .i64 0, .int .i64 0, .int .i64 0, .int .i64 0, .int .i64 0, .int .i64 0, .int .i64 0, .int .i64 0], .int .i64 1]) ∧ Below w.heap.size w w' := by
  have t0 : decide (x < 0) = true := decide_eq_true (by omega)
  go_enter Try.func15, Try.ntmps15
  go_wp2_with (first | (go_at_call 27; refine (formed_all _ _ _ _ _ _ _ _ _).mono ?_; rintro e w' ⟨rfl, rfl⟩))
  refine bodyPost_ret (v := .tuple #[.agg #[.int .i64 0, .int .i64 0, .int .i64 0, .int .i64 0, .int .i64 0, .int .i64 0, .int .i64 0, .int .i64 0], .int .i64 1]) (by simp [results, Try.results15, go_sem]) rfl ⟨rfl, ?_⟩
  repeat (first | (with_reducible exact Below.refl _ _) | (with_reducible refine bs_drewN ?_ _) | (with_reducible refine bs_drew ?_) | (with_reducible refine bs_alloc ?_ _) | (with_reducible refine bs_set ?_ _ (by first | (simp; done) | (simp; omega))) | (with_reducible refine bs_step ?_ (by assumption)))
set_option maxHeartbeats 2000000 in
set_option maxRecDepth 100000 in
theorem judge_a2 (k st ws wn ch key f n x y : Int) (w : World) (hf : formedB k st ws wn ch = true) (g1 : 0 ≤ x) (g2 : y ≤ x) : Calls Try.prog 15 #[.agg #[.int .i64 k, .int .i64 st, .int .i64 ws, .int .i64 wn, .int .i64 ch, .int .i64 key, .int .i64 f, .int .i64 n], .agg #[.int .i64 x, .int .i64 y]] w fun e w' => e = .returned (.tuple #[.agg #[.int .i64 0, .int .i64 0, .int .i64 0, .int .i64 0, .int .i64 0, .int .i64 0, .int .i64 0, .int .i64 0], .int .i64 1]) ∧ Below w.heap.size w w' := by
  have t0 : decide (x < 0) = false := decide_eq_false (by omega)
  have t1 : decide (y ≤ x) = true := decide_eq_true (by omega)
  go_enter Try.func15, Try.ntmps15
  go_wp2_with (first | (go_at_call 27; refine (formed_all _ _ _ _ _ _ _ _ _).mono ?_; rintro e w' ⟨rfl, rfl⟩))
  refine bodyPost_ret (v := .tuple #[.agg #[.int .i64 0, .int .i64 0, .int .i64 0, .int .i64 0, .int .i64 0, .int .i64 0, .int .i64 0, .int .i64 0], .int .i64 1]) (by simp [results, Try.results15, go_sem]) rfl ⟨rfl, ?_⟩
  repeat (first | (with_reducible exact Below.refl _ _) | (with_reducible refine bs_drewN ?_ _) | (with_reducible refine bs_drew ?_) | (with_reducible refine bs_alloc ?_ _) | (with_reducible refine bs_set ?_ _ (by first | (simp; done) | (simp; omega))) | (with_reducible refine bs_step ?_ (by assumption)))
set_option maxHeartbeats 2000000 in
set_option maxRecDepth 100000 in
theorem judge_a3 (k st ws wn ch key f n x y : Int) (w : World) (hf : formedB k st ws wn ch = true) (g1 : 0 ≤ x) (g2 : x < y) (g3 : 1000000000 < y) : Calls Try.prog 15 #[.agg #[.int .i64 k, .int .i64 st, .int .i64 ws, .int .i64 wn, .int .i64 ch, .int .i64 key, .int .i64 f, .int .i64 n], .agg #[.int .i64 x, .int .i64 y]] w fun e w' => e = .returned (.tuple #[.agg #[.int .i64 0, .int .i64 0, .int .i64 0, .int .i64 0, .int .i64 0, .int .i64 0, .int .i64 0, .int .i64 0], .int .i64 1]) ∧ Below w.heap.size w w' := by
  have t0 : decide (x < 0) = false := decide_eq_false (by omega)
  have t1 : decide (y ≤ x) = false := decide_eq_false (by omega)
  have t2 : decide (1000000000 < y) = true := decide_eq_true g3
  go_enter Try.func15, Try.ntmps15
  go_wp2_with (first | (go_at_call 27; refine (formed_all _ _ _ _ _ _ _ _ _).mono ?_; rintro e w' ⟨rfl, rfl⟩))
  refine bodyPost_ret (v := .tuple #[.agg #[.int .i64 0, .int .i64 0, .int .i64 0, .int .i64 0, .int .i64 0, .int .i64 0, .int .i64 0, .int .i64 0], .int .i64 1]) (by simp [results, Try.results15, go_sem]) rfl ⟨rfl, ?_⟩
  repeat (first | (with_reducible exact Below.refl _ _) | (with_reducible refine bs_drewN ?_ _) | (with_reducible refine bs_drew ?_) | (with_reducible refine bs_alloc ?_ _) | (with_reducible refine bs_set ?_ _ (by first | (simp; done) | (simp; omega))) | (with_reducible refine bs_step ?_ (by assumption)))
set_option maxHeartbeats 2000000 in
set_option maxRecDepth 100000 in
theorem judge_k (k st ws wn ch key f n x y : Int) (w : World) (hf : formedB k st ws wn ch = true) (g1 : 0 ≤ x) (g2 : x < y) (g3 : y ≤ 1000000000) (hk : k ≠ 3) : Calls Try.prog 15 #[.agg #[.int .i64 k, .int .i64 st, .int .i64 ws, .int .i64 wn, .int .i64 ch, .int .i64 key, .int .i64 f, .int .i64 n], .agg #[.int .i64 x, .int .i64 y]] w fun e w' => e = .returned (.tuple #[.agg #[.int .i64 0, .int .i64 0, .int .i64 0, .int .i64 0, .int .i64 0, .int .i64 0, .int .i64 0, .int .i64 0], .int .i64 9]) ∧ Below w.heap.size w w' := by
  obtain ⟨⟨n0, n1⟩, _⟩ := formed_of hf
  have t0 : decide (x < 0) = false := decide_eq_false (by omega)
  have t1 : decide (y ≤ x) = false := decide_eq_false (by omega)
  have t2 : decide (1000000000 < y) = false := decide_eq_false (by omega)
  have t3 : (k != 3) = true := by rw [bne_iff_ne]; exact hk
  clear hk 
  go_enter Try.func15, Try.ntmps15
  go_wp2_with (first | (go_at_call 27; refine (formed_all _ _ _ _ _ _ _ _ _).mono ?_; rintro e w' ⟨rfl, rfl⟩) | (go_at_call 26; refine (own_yes _ n0 n1 _).mono ?_; rintro e w' ⟨rfl, rfl⟩))
  refine bodyPost_ret (v := .tuple #[.agg #[.int .i64 0, .int .i64 0, .int .i64 0, .int .i64 0, .int .i64 0, .int .i64 0, .int .i64 0, .int .i64 0], .int .i64 9]) (by simp [results, Try.results15, go_sem]) rfl ⟨rfl, ?_⟩
  repeat (first | (with_reducible exact Below.refl _ _) | (with_reducible refine bs_drewN ?_ _) | (with_reducible refine bs_drew ?_) | (with_reducible refine bs_alloc ?_ _) | (with_reducible refine bs_set ?_ _ (by first | (simp; done) | (simp; omega))) | (with_reducible refine bs_step ?_ (by assumption)))
set_option maxHeartbeats 2000000 in
set_option maxRecDepth 100000 in
theorem judge_y (k st ws wn ch key f n x y : Int) (w : World) (hf : formedB k st ws wn ch = true) (g1 : 0 ≤ x) (g2 : x < y) (g3 : y ≤ 1000000000) (hk : k = 3) (hy : key ≠ 1000000 + st) : Calls Try.prog 15 #[.agg #[.int .i64 k, .int .i64 st, .int .i64 ws, .int .i64 wn, .int .i64 ch, .int .i64 key, .int .i64 f, .int .i64 n], .agg #[.int .i64 x, .int .i64 y]] w fun e w' => e = .returned (.tuple #[.agg #[.int .i64 0, .int .i64 0, .int .i64 0, .int .i64 0, .int .i64 0, .int .i64 0, .int .i64 0, .int .i64 0], .int .i64 13]) ∧ Below w.heap.size w w' := by
  obtain ⟨⟨n0, n1⟩, _⟩ := formed_of hf
  have t0 : decide (x < 0) = false := decide_eq_false (by omega)
  have t1 : decide (y ≤ x) = false := decide_eq_false (by omega)
  have t2 : decide (1000000000 < y) = false := decide_eq_false (by omega)
  have t3 : (k != 3) = false := by rw [bne_eq_false_iff_eq]; exact hk
  have t4 : (key != 1000000 + st) = true := by rw [bne_iff_ne]; exact hy
  clear hk hy
  go_enter Try.func15, Try.ntmps15
  go_wp2_with (first | (go_at_call 27; refine (formed_all _ _ _ _ _ _ _ _ _).mono ?_; rintro e w' ⟨rfl, rfl⟩) | (go_at_call 26; refine (own_yes _ n0 n1 _).mono ?_; rintro e w' ⟨rfl, rfl⟩))
  refine bodyPost_ret (v := .tuple #[.agg #[.int .i64 0, .int .i64 0, .int .i64 0, .int .i64 0, .int .i64 0, .int .i64 0, .int .i64 0, .int .i64 0], .int .i64 13]) (by simp [results, Try.results15, go_sem]) rfl ⟨rfl, ?_⟩
  repeat (first | (with_reducible exact Below.refl _ _) | (with_reducible refine bs_drewN ?_ _) | (with_reducible refine bs_drew ?_) | (with_reducible refine bs_alloc ?_ _) | (with_reducible refine bs_set ?_ _ (by first | (simp; done) | (simp; omega))) | (with_reducible refine bs_step ?_ (by assumption)))
set_option maxHeartbeats 2000000 in
set_option maxRecDepth 100000 in
theorem judge_o (k st ws wn ch key f n x y : Int) (w : World) (hf : formedB k st ws wn ch = true) (g1 : 0 ≤ x) (g2 : x < y) (g3 : y ≤ 1000000000) (hk : k = 3) (hy : key = 1000000 + st) : Calls Try.prog 15 #[.agg #[.int .i64 k, .int .i64 st, .int .i64 ws, .int .i64 wn, .int .i64 ch, .int .i64 key, .int .i64 f, .int .i64 n], .agg #[.int .i64 x, .int .i64 y]] w fun e w' => e = .returned (.tuple #[.agg #[.int .i64 4, .int .i64 st, .int .i64 ws, .int .i64 wn, .int .i64 0, .int .i64 key, .int .i64 x, .int .i64 y], .int .i64 0]) ∧ Below w.heap.size w w' := by
  obtain ⟨⟨n0, n1⟩, _⟩ := formed_of hf
  have t0 : decide (x < 0) = false := decide_eq_false (by omega)
  have t1 : decide (y ≤ x) = false := decide_eq_false (by omega)
  have t2 : decide (1000000000 < y) = false := decide_eq_false (by omega)
  have t3 : (k != 3) = false := by rw [bne_eq_false_iff_eq]; exact hk
  have t4 : (key != 1000000 + st) = false := by rw [bne_eq_false_iff_eq]; exact hy
  clear hk hy
  go_enter Try.func15, Try.ntmps15
  go_wp2_with (first | (go_at_call 27; refine (formed_all _ _ _ _ _ _ _ _ _).mono ?_; rintro e w' ⟨rfl, rfl⟩) | (go_at_call 26; refine (own_yes _ n0 n1 _).mono ?_; rintro e w' ⟨rfl, rfl⟩))
  go_region
  go_wp2
  refine bodyPost_ret (v := .tuple #[.agg #[.int .i64 4, .int .i64 st, .int .i64 ws, .int .i64 wn, .int .i64 0, .int .i64 key, .int .i64 x, .int .i64 y], .int .i64 0]) (by simp [results, Try.results15, go_sem]) rfl ⟨rfl, ?_⟩
  repeat (first | (with_reducible exact Below.refl _ _) | (with_reducible refine bs_drewN ?_ _) | (with_reducible refine bs_drew ?_) | (with_reducible refine bs_alloc ?_ _) | (with_reducible refine bs_set ?_ _ (by first | (simp; done) | (simp; omega))) | (with_reducible refine bs_step ?_ (by assumption)))
theorem judge_arg (k st ws wn ch key f n x y : Int) (w : World) (h : ¬ judgeP k st ws wn ch x y) : Calls Try.prog 15 #[.agg #[.int .i64 k, .int .i64 st, .int .i64 ws, .int .i64 wn, .int .i64 ch, .int .i64 key, .int .i64 f, .int .i64 n], .agg #[.int .i64 x, .int .i64 y]] w fun e w' => e = .returned (.tuple #[.agg #[.int .i64 0, .int .i64 0, .int .i64 0, .int .i64 0, .int .i64 0, .int .i64 0, .int .i64 0, .int .i64 0], .int .i64 1]) ∧ Below w.heap.size w w' := by
  unfold judgeP at h
  by_cases hf : formedB k st ws wn ch = true
  · by_cases g1 : 0 ≤ x
    · by_cases g2 : x < y
      · exact judge_a3 _ _ _ _ _ _ _ _ _ _ w hf g1 g2 (Int.not_le.1 fun q => h ⟨hf, g1, g2, q⟩)
      · exact judge_a2 _ _ _ _ _ _ _ _ _ _ w hf g1 (by omega)
    · exact judge_a1 _ _ _ _ _ _ _ _ _ _ w hf g1
  · exact judge_a0 _ _ _ _ _ _ _ _ _ _ w (by simpa using hf)
set_option maxHeartbeats 2000000 in
set_option maxRecDepth 100000 in
theorem rjudge_a0 (k st ws wn ch key f n x y : Int) (w : World) (hf : formedB k st ws wn ch = false) : Calls Try.prog 16 #[.agg #[.int .i64 k, .int .i64 st, .int .i64 ws, .int .i64 wn, .int .i64 ch, .int .i64 key, .int .i64 f, .int .i64 n], .agg #[.int .i64 x, .int .i64 y]] w fun e w' => e = .returned (.tuple #[.agg #[.int .i64 0, .int .i64 0, .int .i64 0, .int .i64 0, .int .i64 0, .int .i64 0, .int .i64 0, .int .i64 0], .int .i64 1]) ∧ Below w.heap.size w w' := by
  go_enter Try.func16, Try.ntmps16
  go_wp2_with (first | (go_at_call 21; refine (rformed_all _ _ _ _ _ _ _ _ _).mono ?_; rintro e w' ⟨rfl, rfl⟩))
  refine bodyPost_ret (v := .tuple #[.agg #[.int .i64 0, .int .i64 0, .int .i64 0, .int .i64 0, .int .i64 0, .int .i64 0, .int .i64 0, .int .i64 0], .int .i64 1]) (by simp [results, Try.results16, go_sem]) rfl ⟨rfl, ?_⟩
  repeat (first | (with_reducible exact Below.refl _ _) | (with_reducible refine bs_drewN ?_ _) | (with_reducible refine bs_drew ?_) | (with_reducible refine bs_alloc ?_ _) | (with_reducible refine bs_set ?_ _ (by first | (simp; done) | (simp; omega))) | (with_reducible refine bs_step ?_ (by assumption)))
set_option maxHeartbeats 2000000 in
set_option maxRecDepth 100000 in
theorem rjudge_a1 (k st ws wn ch key f n x y : Int) (w : World) (hf : formedB k st ws wn ch = true) (g1 : ¬ 0 ≤ x) : Calls Try.prog 16 #[.agg #[.int .i64 k, .int .i64 st, .int .i64 ws, .int .i64 wn, .int .i64 ch, .int .i64 key, .int .i64 f, .int .i64 n], .agg #[.int .i64 x, .int .i64 y]] w fun e w' => e = .returned (.tuple #[.agg #[.int .i64 0, .int .i64 0, .int .i64 0, .int .i64 0, .int .i64 0, .int .i64 0, .int .i64 0, .int .i64 0], .int .i64 1]) ∧ Below w.heap.size w w' := by
  have t0 : decide (x < 0) = true := decide_eq_true (by omega)
  go_enter Try.func16, Try.ntmps16
  go_wp2_with (first | (go_at_call 21; refine (rformed_all _ _ _ _ _ _ _ _ _).mono ?_; rintro e w' ⟨rfl, rfl⟩))
  refine bodyPost_ret (v := .tuple #[.agg #[.int .i64 0, .int .i64 0, .int .i64 0, .int .i64 0, .int .i64 0, .int .i64 0, .int .i64 0, .int .i64 0], .int .i64 1]) (by simp [results, Try.results16, go_sem]) rfl ⟨rfl, ?_⟩
  repeat (first | (with_reducible exact Below.refl _ _) | (with_reducible refine bs_drewN ?_ _) | (with_reducible refine bs_drew ?_) | (with_reducible refine bs_alloc ?_ _) | (with_reducible refine bs_set ?_ _ (by first | (simp; done) | (simp; omega))) | (with_reducible refine bs_step ?_ (by assumption)))
set_option maxHeartbeats 2000000 in
set_option maxRecDepth 100000 in
theorem rjudge_a2 (k st ws wn ch key f n x y : Int) (w : World) (hf : formedB k st ws wn ch = true) (g1 : 0 ≤ x) (g2 : y ≤ x) : Calls Try.prog 16 #[.agg #[.int .i64 k, .int .i64 st, .int .i64 ws, .int .i64 wn, .int .i64 ch, .int .i64 key, .int .i64 f, .int .i64 n], .agg #[.int .i64 x, .int .i64 y]] w fun e w' => e = .returned (.tuple #[.agg #[.int .i64 0, .int .i64 0, .int .i64 0, .int .i64 0, .int .i64 0, .int .i64 0, .int .i64 0, .int .i64 0], .int .i64 1]) ∧ Below w.heap.size w w' := by
  have t0 : decide (x < 0) = false := decide_eq_false (by omega)
  have t1 : decide (y ≤ x) = true := decide_eq_true (by omega)
  go_enter Try.func16, Try.ntmps16
  go_wp2_with (first | (go_at_call 21; refine (rformed_all _ _ _ _ _ _ _ _ _).mono ?_; rintro e w' ⟨rfl, rfl⟩))
  refine bodyPost_ret (v := .tuple #[.agg #[.int .i64 0, .int .i64 0, .int .i64 0, .int .i64 0, .int .i64 0, .int .i64 0, .int .i64 0, .int .i64 0], .int .i64 1]) (by simp [results, Try.results16, go_sem]) rfl ⟨rfl, ?_⟩
  repeat (first | (with_reducible exact Below.refl _ _) | (with_reducible refine bs_drewN ?_ _) | (with_reducible refine bs_drew ?_) | (with_reducible refine bs_alloc ?_ _) | (with_reducible refine bs_set ?_ _ (by first | (simp; done) | (simp; omega))) | (with_reducible refine bs_step ?_ (by assumption)))
set_option maxHeartbeats 2000000 in
set_option maxRecDepth 100000 in
theorem rjudge_a3 (k st ws wn ch key f n x y : Int) (w : World) (hf : formedB k st ws wn ch = true) (g1 : 0 ≤ x) (g2 : x < y) (g3 : 1000000000 < y) : Calls Try.prog 16 #[.agg #[.int .i64 k, .int .i64 st, .int .i64 ws, .int .i64 wn, .int .i64 ch, .int .i64 key, .int .i64 f, .int .i64 n], .agg #[.int .i64 x, .int .i64 y]] w fun e w' => e = .returned (.tuple #[.agg #[.int .i64 0, .int .i64 0, .int .i64 0, .int .i64 0, .int .i64 0, .int .i64 0, .int .i64 0, .int .i64 0], .int .i64 1]) ∧ Below w.heap.size w w' := by
  have t0 : decide (x < 0) = false := decide_eq_false (by omega)
  have t1 : decide (y ≤ x) = false := decide_eq_false (by omega)
  have t2 : decide (1000000000 < y) = true := decide_eq_true g3
  go_enter Try.func16, Try.ntmps16
  go_wp2_with (first | (go_at_call 21; refine (rformed_all _ _ _ _ _ _ _ _ _).mono ?_; rintro e w' ⟨rfl, rfl⟩))
  refine bodyPost_ret (v := .tuple #[.agg #[.int .i64 0, .int .i64 0, .int .i64 0, .int .i64 0, .int .i64 0, .int .i64 0, .int .i64 0, .int .i64 0], .int .i64 1]) (by simp [results, Try.results16, go_sem]) rfl ⟨rfl, ?_⟩
  repeat (first | (with_reducible exact Below.refl _ _) | (with_reducible refine bs_drewN ?_ _) | (with_reducible refine bs_drew ?_) | (with_reducible refine bs_alloc ?_ _) | (with_reducible refine bs_set ?_ _ (by first | (simp; done) | (simp; omega))) | (with_reducible refine bs_step ?_ (by assumption)))
set_option maxHeartbeats 2000000 in
set_option maxRecDepth 100000 in
theorem rjudge_k (k st ws wn ch key f n x y : Int) (w : World) (hf : formedB k st ws wn ch = true) (g1 : 0 ≤ x) (g2 : x < y) (g3 : y ≤ 1000000000) (hk : k ≠ 3) : Calls Try.prog 16 #[.agg #[.int .i64 k, .int .i64 st, .int .i64 ws, .int .i64 wn, .int .i64 ch, .int .i64 key, .int .i64 f, .int .i64 n], .agg #[.int .i64 x, .int .i64 y]] w fun e w' => e = .returned (.tuple #[.agg #[.int .i64 0, .int .i64 0, .int .i64 0, .int .i64 0, .int .i64 0, .int .i64 0, .int .i64 0, .int .i64 0], .int .i64 9]) ∧ Below w.heap.size w w' := by
  obtain ⟨⟨n0, n1⟩, _⟩ := formed_of hf
  have t0 : decide (x < 0) = false := decide_eq_false (by omega)
  have t1 : decide (y ≤ x) = false := decide_eq_false (by omega)
  have t2 : decide (1000000000 < y) = false := decide_eq_false (by omega)
  have t3 : (k != 3) = true := by rw [bne_iff_ne]; exact hk
  clear hk 
  go_enter Try.func16, Try.ntmps16
  go_wp2_with (first | (go_at_call 21; refine (rformed_all _ _ _ _ _ _ _ _ _).mono ?_; rintro e w' ⟨rfl, rfl⟩) | (go_at_call 20; refine (rown _ n0 n1 _).mono ?_; rintro e w' ⟨rfl, rfl⟩))
  refine bodyPost_ret (v := .tuple #[.agg #[.int .i64 0, .int .i64 0, .int .i64 0, .int .i64 0, .int .i64 0, .int .i64 0, .int .i64 0, .int .i64 0], .int .i64 9]) (by simp [results, Try.results16, go_sem]) rfl ⟨rfl, ?_⟩
  repeat (first | (with_reducible exact Below.refl _ _) | (with_reducible refine bs_drewN ?_ _) | (with_reducible refine bs_drew ?_) | (with_reducible refine bs_alloc ?_ _) | (with_reducible refine bs_set ?_ _ (by first | (simp; done) | (simp; omega))) | (with_reducible refine bs_step ?_ (by assumption)))
set_option maxHeartbeats 2000000 in
set_option maxRecDepth 100000 in
theorem rjudge_y (k st ws wn ch key f n x y : Int) (w : World) (hf : formedB k st ws wn ch = true) (g1 : 0 ≤ x) (g2 : x < y) (g3 : y ≤ 1000000000) (hk : k = 3) (hy : key ≠ 1000000 + st) : Calls Try.prog 16 #[.agg #[.int .i64 k, .int .i64 st, .int .i64 ws, .int .i64 wn, .int .i64 ch, .int .i64 key, .int .i64 f, .int .i64 n], .agg #[.int .i64 x, .int .i64 y]] w fun e w' => e = .returned (.tuple #[.agg #[.int .i64 0, .int .i64 0, .int .i64 0, .int .i64 0, .int .i64 0, .int .i64 0, .int .i64 0, .int .i64 0], .int .i64 13]) ∧ Below w.heap.size w w' := by
  obtain ⟨⟨n0, n1⟩, _⟩ := formed_of hf
  have t0 : decide (x < 0) = false := decide_eq_false (by omega)
  have t1 : decide (y ≤ x) = false := decide_eq_false (by omega)
  have t2 : decide (1000000000 < y) = false := decide_eq_false (by omega)
  have t3 : (k != 3) = false := by rw [bne_eq_false_iff_eq]; exact hk
  have t4 : (key != 1000000 + st) = true := by rw [bne_iff_ne]; exact hy
  clear hk hy
  go_enter Try.func16, Try.ntmps16
  go_wp2_with (first | (go_at_call 21; refine (rformed_all _ _ _ _ _ _ _ _ _).mono ?_; rintro e w' ⟨rfl, rfl⟩) | (go_at_call 20; refine (rown _ n0 n1 _).mono ?_; rintro e w' ⟨rfl, rfl⟩))
  go_region_held3 (fun w' => w'.cell? ⟨w.heap.size, 5, none⟩ = some (.int .i64 key) ∧ w'.cell? ⟨w.heap.size, 1, none⟩ = some (.int .i64 st)) (simp [go_sem, World.cell?_alloc_past]) (first | (go_at_call 20; refine (rown _ n0 n1 _).mono ?_; rintro e w' ⟨rfl, rfl⟩))
  go_wp2
  refine bodyPost_ret (v := .tuple #[.agg #[.int .i64 0, .int .i64 0, .int .i64 0, .int .i64 0, .int .i64 0, .int .i64 0, .int .i64 0, .int .i64 0], .int .i64 13]) (by simp [results, Try.results16, go_sem]) rfl ⟨rfl, ?_⟩
  repeat (first | (with_reducible exact Below.refl _ _) | (with_reducible refine bs_drewN ?_ _) | (with_reducible refine bs_drew ?_) | (with_reducible refine bs_alloc ?_ _) | (with_reducible refine bs_set ?_ _ (by first | (simp; done) | (simp; omega))) | (with_reducible refine bs_step ?_ (by assumption)))
set_option maxHeartbeats 2000000 in
set_option maxRecDepth 100000 in
theorem rjudge_o (k st ws wn ch key f n x y : Int) (w : World) (hf : formedB k st ws wn ch = true) (g1 : 0 ≤ x) (g2 : x < y) (g3 : y ≤ 1000000000) (hk : k = 3) (hy : key = 1000000 + st) : Calls Try.prog 16 #[.agg #[.int .i64 k, .int .i64 st, .int .i64 ws, .int .i64 wn, .int .i64 ch, .int .i64 key, .int .i64 f, .int .i64 n], .agg #[.int .i64 x, .int .i64 y]] w fun e w' => e = .returned (.tuple #[.agg #[.int .i64 4, .int .i64 st, .int .i64 ws, .int .i64 wn, .int .i64 0, .int .i64 key, .int .i64 x, .int .i64 y], .int .i64 0]) ∧ Below w.heap.size w w' := by
  obtain ⟨⟨n0, n1⟩, _⟩ := formed_of hf
  have t0 : decide (x < 0) = false := decide_eq_false (by omega)
  have t1 : decide (y ≤ x) = false := decide_eq_false (by omega)
  have t2 : decide (1000000000 < y) = false := decide_eq_false (by omega)
  have t3 : (k != 3) = false := by rw [bne_eq_false_iff_eq]; exact hk
  have t4 : (key != 1000000 + st) = false := by rw [bne_eq_false_iff_eq]; exact hy
  clear hk hy
  go_enter Try.func16, Try.ntmps16
  go_wp2_with (first | (go_at_call 21; refine (rformed_all _ _ _ _ _ _ _ _ _).mono ?_; rintro e w' ⟨rfl, rfl⟩) | (go_at_call 20; refine (rown _ n0 n1 _).mono ?_; rintro e w' ⟨rfl, rfl⟩))
  go_region_held3 (fun w' => w'.cell? ⟨w.heap.size, 5, none⟩ = some (.int .i64 key) ∧ w'.cell? ⟨w.heap.size, 1, none⟩ = some (.int .i64 st)) (simp [go_sem, World.cell?_alloc_past]) (first | (go_at_call 20; refine (rown _ n0 n1 _).mono ?_; rintro e w' ⟨rfl, rfl⟩))
  go_wp2
  refine bodyPost_ret (v := .tuple #[.agg #[.int .i64 4, .int .i64 st, .int .i64 ws, .int .i64 wn, .int .i64 0, .int .i64 key, .int .i64 x, .int .i64 y], .int .i64 0]) (by simp [results, Try.results16, go_sem]) rfl ⟨rfl, ?_⟩
  repeat (first | (with_reducible exact Below.refl _ _) | (with_reducible refine bs_drewN ?_ _) | (with_reducible refine bs_drew ?_) | (with_reducible refine bs_alloc ?_ _) | (with_reducible refine bs_set ?_ _ (by first | (simp; done) | (simp; omega))) | (with_reducible refine bs_step ?_ (by assumption)))
theorem rjudge_arg (k st ws wn ch key f n x y : Int) (w : World) (h : ¬ judgeP k st ws wn ch x y) : Calls Try.prog 16 #[.agg #[.int .i64 k, .int .i64 st, .int .i64 ws, .int .i64 wn, .int .i64 ch, .int .i64 key, .int .i64 f, .int .i64 n], .agg #[.int .i64 x, .int .i64 y]] w fun e w' => e = .returned (.tuple #[.agg #[.int .i64 0, .int .i64 0, .int .i64 0, .int .i64 0, .int .i64 0, .int .i64 0, .int .i64 0, .int .i64 0], .int .i64 1]) ∧ Below w.heap.size w w' := by
  unfold judgeP at h
  by_cases hf : formedB k st ws wn ch = true
  · by_cases g1 : 0 ≤ x
    · by_cases g2 : x < y
      · exact rjudge_a3 _ _ _ _ _ _ _ _ _ _ w hf g1 g2 (Int.not_le.1 fun q => h ⟨hf, g1, g2, q⟩)
      · exact rjudge_a2 _ _ _ _ _ _ _ _ _ _ w hf g1 (by omega)
    · exact rjudge_a1 _ _ _ _ _ _ _ _ _ _ w hf g1
  · exact rjudge_a0 _ _ _ _ _ _ _ _ _ _ w (by simpa using hf)
end Go.Proofs.Yteiiglefbbhinaa
