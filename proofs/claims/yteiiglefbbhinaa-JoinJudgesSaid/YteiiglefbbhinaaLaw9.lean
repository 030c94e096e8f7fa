/-
  JoinJudges: the walks of the law on package join, for every input: the root welcomes a well-formed proof under a valid ring exactly if its key is the own key of the stranger; the welcome is for its stranger, sponsor and nonce and is well-formed.
-/
import Derived.Test.YteiiglefbbhinaaJoinN
import Derived.WalkLawsBesides
import Derived.BigQuiet
import Derived.Deep.RegionHeld3
import Derived.Deep.DeepCutAuto
import Derived.LoopTactic
import Derived.Lib.Hide
namespace Go.Proofs.Yteiiglefbbhinaa
open Go.RowKit
set_option linter.unusedVariables false
set_option linter.unusedSimpArgs false
set_option maxHeartbeats 2000000 in
set_option maxRecDepth 100000 in
theorem law9_a (k st ws wn ch key f n x y : Int) (w : World) (hf : formedB k st ws wn ch = false) : Calls Try.prog 9 #[.agg #[.int .i64 k, .int .i64 st, .int .i64 ws, .int .i64 wn, .int .i64 ch, .int .i64 key, .int .i64 f, .int .i64 n], .agg #[.int .i64 x, .int .i64 y]] w fun e w' => e = .returned (.bool true) ∧ Below w.heap.size w w' := by
  go_enter Try.func9, Try.ntmps9
  go_wp2_with (fail)
  refine (head_true _).mono ?_
  rintro e w1 ⟨rfl, hb1⟩
  obtain ⟨c1_0, f1_0, z1_0, za1_0, zb1_0, zc1_0⟩ := seen hb1 (w.heap.size) (by first | omega | (simp; done) | (simp; omega))
  obtain ⟨c1_1, f1_1, z1_1, za1_1, zb1_1, zc1_1⟩ := seen hb1 (w.heap.size + 1) (by first | omega | (simp; done) | (simp; omega))
  go_wp2_with (first | (go_at_call 21; refine (rformed_all _ _ _ _ _ _ _ _ _).mono ?_; rintro e w' ⟨rfl, rfl⟩))
  go_ret
  refine ⟨rfl, ?_⟩
  repeat (first | (with_reducible exact Below.refl _ _) | (with_reducible refine bs_drewN ?_ _) | (with_reducible refine bs_drew ?_) | (with_reducible refine bs_alloc ?_ _) | (with_reducible refine bs_set ?_ _ (by first | (simp; done) | (simp; omega))) | (with_reducible refine bs_step ?_ (by assumption)))
set_option maxHeartbeats 2000000 in
set_option maxRecDepth 100000 in
theorem law9_b (k st ws wn ch key f n x y : Int) (w : World) (hf : formedB k st ws wn ch = true) (hk : k ≠ 3) : Calls Try.prog 9 #[.agg #[.int .i64 k, .int .i64 st, .int .i64 ws, .int .i64 wn, .int .i64 ch, .int .i64 key, .int .i64 f, .int .i64 n], .agg #[.int .i64 x, .int .i64 y]] w fun e w' => e = .returned (.bool true) ∧ Below w.heap.size w w' := by
  have t0 : (k != 3) = true := by rw [bne_iff_ne]; exact hk
  clear hk
  go_enter Try.func9, Try.ntmps9
  go_wp2_with (fail)
  refine (head_true _).mono ?_
  rintro e w1 ⟨rfl, hb1⟩
  obtain ⟨c1_0, f1_0, z1_0, za1_0, zb1_0, zc1_0⟩ := seen hb1 (w.heap.size) (by first | omega | (simp; done) | (simp; omega))
  obtain ⟨c1_1, f1_1, z1_1, za1_1, zb1_1, zc1_1⟩ := seen hb1 (w.heap.size + 1) (by first | omega | (simp; done) | (simp; omega))
  go_wp2_with (first | (go_at_call 21; refine (rformed_all _ _ _ _ _ _ _ _ _).mono ?_; rintro e w' ⟨rfl, rfl⟩))
  go_ret
  refine ⟨rfl, ?_⟩
  repeat (first | (with_reducible exact Below.refl _ _) | (with_reducible refine bs_drewN ?_ _) | (with_reducible refine bs_drew ?_) | (with_reducible refine bs_alloc ?_ _) | (with_reducible refine bs_set ?_ _ (by first | (simp; done) | (simp; omega))) | (with_reducible refine bs_step ?_ (by assumption)))
set_option maxHeartbeats 2000000 in
set_option maxRecDepth 100000 in
theorem law9_c (k st ws wn ch key f n x y : Int) (w : World) (hf : formedB k st ws wn ch = true) (hk : k = 3) (h0 : x < 0) : Calls Try.prog 9 #[.agg #[.int .i64 k, .int .i64 st, .int .i64 ws, .int .i64 wn, .int .i64 ch, .int .i64 key, .int .i64 f, .int .i64 n], .agg #[.int .i64 x, .int .i64 y]] w fun e w' => e = .returned (.bool true) ∧ Below w.heap.size w w' := by
  have t0 : (k != 3) = false := by rw [bne_eq_false_iff_eq]; exact hk
  have t1 : decide (x < 0) = true := decide_eq_true h0
  clear hk
  go_enter Try.func9, Try.ntmps9
  go_wp2_with (fail)
  refine (head_true _).mono ?_
  rintro e w1 ⟨rfl, hb1⟩
  obtain ⟨c1_0, f1_0, z1_0, za1_0, zb1_0, zc1_0⟩ := seen hb1 (w.heap.size) (by first | omega | (simp; done) | (simp; omega))
  obtain ⟨c1_1, f1_1, z1_1, za1_1, zb1_1, zc1_1⟩ := seen hb1 (w.heap.size + 1) (by first | omega | (simp; done) | (simp; omega))
  go_wp2_with (first | (go_at_call 21; refine (rformed_all _ _ _ _ _ _ _ _ _).mono ?_; rintro e w' ⟨rfl, rfl⟩))
  go_ret
  refine ⟨rfl, ?_⟩
  repeat (first | (with_reducible exact Below.refl _ _) | (with_reducible refine bs_drewN ?_ _) | (with_reducible refine bs_drew ?_) | (with_reducible refine bs_alloc ?_ _) | (with_reducible refine bs_set ?_ _ (by first | (simp; done) | (simp; omega))) | (with_reducible refine bs_step ?_ (by assumption)))
set_option maxHeartbeats 2000000 in
set_option maxRecDepth 100000 in
theorem law9_d (k st ws wn ch key f n x y : Int) (w : World) (hf : formedB k st ws wn ch = true) (hk : k = 3) (h0 : 0 ≤ x) (h1 : y ≤ x) : Calls Try.prog 9 #[.agg #[.int .i64 k, .int .i64 st, .int .i64 ws, .int .i64 wn, .int .i64 ch, .int .i64 key, .int .i64 f, .int .i64 n], .agg #[.int .i64 x, .int .i64 y]] w fun e w' => e = .returned (.bool true) ∧ Below w.heap.size w w' := by
  have t0 : (k != 3) = false := by rw [bne_eq_false_iff_eq]; exact hk
  have t1 : decide (x < 0) = false := decide_eq_false (by omega)
  have t2 : decide (y ≤ x) = true := decide_eq_true h1
  clear hk
  go_enter Try.func9, Try.ntmps9
  go_wp2_with (fail)
  refine (head_true _).mono ?_
  rintro e w1 ⟨rfl, hb1⟩
  obtain ⟨c1_0, f1_0, z1_0, za1_0, zb1_0, zc1_0⟩ := seen hb1 (w.heap.size) (by first | omega | (simp; done) | (simp; omega))
  obtain ⟨c1_1, f1_1, z1_1, za1_1, zb1_1, zc1_1⟩ := seen hb1 (w.heap.size + 1) (by first | omega | (simp; done) | (simp; omega))
  go_wp2_with (first | (go_at_call 21; refine (rformed_all _ _ _ _ _ _ _ _ _).mono ?_; rintro e w' ⟨rfl, rfl⟩))
  go_ret
  refine ⟨rfl, ?_⟩
  repeat (first | (with_reducible exact Below.refl _ _) | (with_reducible refine bs_drewN ?_ _) | (with_reducible refine bs_drew ?_) | (with_reducible refine bs_alloc ?_ _) | (with_reducible refine bs_set ?_ _ (by first | (simp; done) | (simp; omega))) | (with_reducible refine bs_step ?_ (by assumption)))
set_option maxHeartbeats 2000000 in
set_option maxRecDepth 100000 in
theorem law9_e (k st ws wn ch key f n x y : Int) (w : World) (hf : formedB k st ws wn ch = true) (hk : k = 3) (h0 : 0 ≤ x) (h1 : x < y) (h2 : 1000000000 < y) : Calls Try.prog 9 #[.agg #[.int .i64 k, .int .i64 st, .int .i64 ws, .int .i64 wn, .int .i64 ch, .int .i64 key, .int .i64 f, .int .i64 n], .agg #[.int .i64 x, .int .i64 y]] w fun e w' => e = .returned (.bool true) ∧ Below w.heap.size w w' := by
  have t0 : (k != 3) = false := by rw [bne_eq_false_iff_eq]; exact hk
  have t1 : decide (x < 0) = false := decide_eq_false (by omega)
  have t2 : decide (y ≤ x) = false := decide_eq_false (by omega)
  have t3 : decide (1000000000 < y) = true := decide_eq_true h2
  clear hk
  go_enter Try.func9, Try.ntmps9
  go_wp2_with (fail)
  refine (head_true _).mono ?_
  rintro e w1 ⟨rfl, hb1⟩
  obtain ⟨c1_0, f1_0, z1_0, za1_0, zb1_0, zc1_0⟩ := seen hb1 (w.heap.size) (by first | omega | (simp; done) | (simp; omega))
  obtain ⟨c1_1, f1_1, z1_1, za1_1, zb1_1, zc1_1⟩ := seen hb1 (w.heap.size + 1) (by first | omega | (simp; done) | (simp; omega))
  go_wp2_with (first | (go_at_call 21; refine (rformed_all _ _ _ _ _ _ _ _ _).mono ?_; rintro e w' ⟨rfl, rfl⟩))
  go_ret
  refine ⟨rfl, ?_⟩
  repeat (first | (with_reducible exact Below.refl _ _) | (with_reducible refine bs_drewN ?_ _) | (with_reducible refine bs_drew ?_) | (with_reducible refine bs_alloc ?_ _) | (with_reducible refine bs_set ?_ _ (by first | (simp; done) | (simp; omega))) | (with_reducible refine bs_step ?_ (by assumption)))
set_option maxHeartbeats 2000000 in
set_option maxRecDepth 100000 in
theorem law9_y (k st ws wn ch key f n x y : Int) (w : World) (hf : formedB k st ws wn ch = true) (hk : k = 3) (h0 : 0 ≤ x) (h1 : x < y) (h2 : y ≤ 1000000000) (hy : key ≠ 1000000 + st) : Calls Try.prog 9 #[.agg #[.int .i64 k, .int .i64 st, .int .i64 ws, .int .i64 wn, .int .i64 ch, .int .i64 key, .int .i64 f, .int .i64 n], .agg #[.int .i64 x, .int .i64 y]] w fun e w' => e = .returned (.bool true) ∧ Below w.heap.size w w' := by
  have t0 : (k != 3) = false := by rw [bne_eq_false_iff_eq]; exact hk
  have t1 : decide (x < 0) = false := decide_eq_false (by omega)
  have t2 : decide (y ≤ x) = false := decide_eq_false (by omega)
  have t3 : decide (1000000000 < y) = false := decide_eq_false (by omega)
  obtain ⟨⟨n0, n1⟩, n2, n3, n4, n5, n6⟩ := formed_of hf
  have HK := Lib.hid hk
  have t4 : (key != 1000000 + st) = true := by rw [bne_iff_ne]; exact hy
  have HY := Lib.hid hy
  clear hk hy n3
  go_enter Try.func9, Try.ntmps9
  go_wp2_with (fail)
  refine (head_true _).mono ?_
  rintro e w1 ⟨rfl, hb1⟩
  obtain ⟨c1_0, f1_0, z1_0, za1_0, zb1_0, zc1_0⟩ := seen hb1 (w.heap.size) (by first | omega | (simp; done) | (simp; omega))
  obtain ⟨c1_1, f1_1, z1_1, za1_1, zb1_1, zc1_1⟩ := seen hb1 (w.heap.size + 1) (by first | omega | (simp; done) | (simp; omega))
  go_wp2_with (first | (go_at_call 21; refine (rformed_all _ _ _ _ _ _ _ _ _).mono ?_; rintro e w' ⟨rfl, rfl⟩))
  refine (judge_y _ _ _ _ _ _ _ _ _ _ _ hf h0 h1 h2 HK.out HY.out).mono ?_
  rintro e w2 ⟨rfl, hb2⟩
  obtain ⟨c2_0, f2_0, z2_0, za2_0, zb2_0, zc2_0⟩ := seen hb2 (w.heap.size) (by first | omega | (simp; done) | (simp; omega))
  obtain ⟨c2_1, f2_1, z2_1, za2_1, zb2_1, zc2_1⟩ := seen hb2 (w.heap.size + 1) (by first | omega | (simp; done) | (simp; omega))
  go_wp2_with (fail)
  go_ret
  refine ⟨rfl, ?_⟩
  repeat (first | (with_reducible exact Below.refl _ _) | (with_reducible refine bs_drewN ?_ _) | (with_reducible refine bs_drew ?_) | (with_reducible refine bs_alloc ?_ _) | (with_reducible refine bs_set ?_ _ (by first | (simp; done) | (simp; omega))) | (with_reducible refine bs_step ?_ (by assumption)))
set_option maxHeartbeats 2000000 in
set_option maxRecDepth 100000 in
theorem law9_o (k st ws wn ch key f n x y : Int) (w : World) (hf : formedB k st ws wn ch = true) (hk : k = 3) (h0 : 0 ≤ x) (h1 : x < y) (h2 : y ≤ 1000000000) (hy : key = 1000000 + st) : Calls Try.prog 9 #[.agg #[.int .i64 k, .int .i64 st, .int .i64 ws, .int .i64 wn, .int .i64 ch, .int .i64 key, .int .i64 f, .int .i64 n], .agg #[.int .i64 x, .int .i64 y]] w fun e w' => e = .returned (.bool true) ∧ Below w.heap.size w w' := by
  have t0 : (k != 3) = false := by rw [bne_eq_false_iff_eq]; exact hk
  have t1 : decide (x < 0) = false := decide_eq_false (by omega)
  have t2 : decide (y ≤ x) = false := decide_eq_false (by omega)
  have t3 : decide (1000000000 < y) = false := decide_eq_false (by omega)
  obtain ⟨⟨n0, n1⟩, n2, n3, n4, n5, n6⟩ := formed_of hf
  have HK := Lib.hid hk
  have t4 : (key != 1000000 + st) = false := by rw [bne_eq_false_iff_eq]; exact hy
  have HY := Lib.hid hy
  have t5 : formedB 4 st ws wn 0 = true := formed_mk (by omega)
  clear hk hy n3
  go_enter Try.func9, Try.ntmps9
  go_wp2_with (fail)
  refine (head_true _).mono ?_
  rintro e w1 ⟨rfl, hb1⟩
  obtain ⟨c1_0, f1_0, z1_0, za1_0, zb1_0, zc1_0⟩ := seen hb1 (w.heap.size) (by first | omega | (simp; done) | (simp; omega))
  obtain ⟨c1_1, f1_1, z1_1, za1_1, zb1_1, zc1_1⟩ := seen hb1 (w.heap.size + 1) (by first | omega | (simp; done) | (simp; omega))
  go_wp2_with (first | (go_at_call 21; refine (rformed_all _ _ _ _ _ _ _ _ _).mono ?_; rintro e w' ⟨rfl, rfl⟩))
  refine (judge_o _ _ _ _ _ _ _ _ _ _ _ hf h0 h1 h2 HK.out HY.out).mono ?_
  rintro e w2 ⟨rfl, hb2⟩
  obtain ⟨c2_0, f2_0, z2_0, za2_0, zb2_0, zc2_0⟩ := seen hb2 (w.heap.size) (by first | omega | (simp; done) | (simp; omega))
  obtain ⟨c2_1, f2_1, z2_1, za2_1, zb2_1, zc2_1⟩ := seen hb2 (w.heap.size + 1) (by first | omega | (simp; done) | (simp; omega))
  go_wp2_with (first | (go_at_call 21; refine (rformed_all _ _ _ _ _ _ _ _ _).mono ?_; rintro e w' ⟨rfl, rfl⟩))
  go_ret
  refine ⟨rfl, ?_⟩
  repeat (first | (with_reducible exact Below.refl _ _) | (with_reducible refine bs_drewN ?_ _) | (with_reducible refine bs_drew ?_) | (with_reducible refine bs_alloc ?_ _) | (with_reducible refine bs_set ?_ _ (by first | (simp; done) | (simp; omega))) | (with_reducible refine bs_step ?_ (by assumption)))
theorem law9_all (k st ws wn ch key f n x y : Int) (w : World) : Calls Try.prog 9 #[.agg #[.int .i64 k, .int .i64 st, .int .i64 ws, .int .i64 wn, .int .i64 ch, .int .i64 key, .int .i64 f, .int .i64 n], .agg #[.int .i64 x, .int .i64 y]] w fun e w' => e = .returned (.bool true) ∧ Below w.heap.size w w' := by
  by_cases hf : formedB k st ws wn ch = true
  rotate_left
  · exact law9_a _ _ _ _ _ _ _ _ _ _ w (by simpa using hf)
  by_cases hk : k = 3
  rotate_left
  · exact law9_b _ _ _ _ _ _ _ _ _ _ w hf hk
  by_cases h0 : 0 ≤ x
  rotate_left
  · exact law9_c _ _ _ _ _ _ _ _ _ _ w hf hk (by omega)
  by_cases h1 : x < y
  rotate_left
  · exact law9_d _ _ _ _ _ _ _ _ _ _ w hf hk h0 (by omega)
  by_cases h2 : y ≤ 1000000000
  rotate_left
  · exact law9_e _ _ _ _ _ _ _ _ _ _ w hf hk h0 h1 (by omega)
  by_cases hy : key = 1000000 + st
  · exact law9_o _ _ _ _ _ _ _ _ _ _ w hf hk h0 h1 h2 hy
  · exact law9_y _ _ _ _ _ _ _ _ _ _ w hf hk h0 h1 h2 hy
end Go.Proofs.Yteiiglefbbhinaa
