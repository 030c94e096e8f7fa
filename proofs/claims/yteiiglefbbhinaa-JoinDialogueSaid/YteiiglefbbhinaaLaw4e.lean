/-
  JoinDialogue: the walks of the law on package join where nothing is to be shown, and the law is true at once: asking, the challenge, its proof, the judgement of the root and its welcome lead the stranger in, in frames that are not late.
-/
import Derived.Test.YteiiglefbbhinaaJoinN
import Derived.WalkLawsBesides
import Derived.BigQuiet
import Derived.Deep.RegionHeld3
import Derived.Deep.DeepCutAuto
import Derived.LoopTactic
import Derived.Lib.Hide
namespace Go.Proofs.Yteiiglefbbhinaa
open Go.RowKit
set_option linter.unusedVariables false
set_option linter.unusedSimpArgs false
set_option maxHeartbeats 2000000 in
set_option maxRecDepth 100000 in
theorem law4_n (ph sp no si tr me bt spo fr ch x y b0 b1 : Int) (w : World) (h : ¬ askOk ph sp no si tr me bt spo fr) : Calls Try.prog 4 #[.agg #[.int .i64 ph, .int .i64 sp, .int .i64 no, .int .i64 si, .int .i64 tr], .int .i64 me, .int .i64 bt, .int .i64 spo, .int .i64 fr, .int .i64 ch, .agg #[.int .i64 x, .int .i64 y], .agg #[.int .u8 b0, .int .u8 b1]] w fun e w' => e = .returned (.bool true) ∧ Below w.heap.size w w' := by
  obtain ⟨E, hE, A1⟩ := ask_no _ _ _ _ _ _ _ _ _ h
  have A1h := Lib.hid A1
  clear A1
  go_enter Try.func4, Try.ntmps4
  go_wp2_with (fail)
  refine (head_true _).mono ?_
  rintro e w1 ⟨rfl, hb1⟩
  obtain ⟨c1_0, f1_0, z1_0, za1_0, zb1_0, zc1_0⟩ := seen hb1 (w.heap.size) (by first | omega | (simp; done) | (simp; omega))
  obtain ⟨c1_1, f1_1, z1_1, za1_1, zb1_1, zc1_1⟩ := seen hb1 (w.heap.size + 1) (by first | omega | (simp; done) | (simp; omega))
  obtain ⟨c1_2, f1_2, z1_2, za1_2, zb1_2, zc1_2⟩ := seen hb1 (w.heap.size + 1 + 1) (by first | omega | (simp; done) | (simp; omega))
  go_wp2_with (fail)
  refine (A1h.out _).mono ?_
  rintro e w2 ⟨rfl, hb2⟩
  obtain ⟨c2_0, f2_0, z2_0, za2_0, zb2_0, zc2_0⟩ := seen hb2 (w.heap.size) (by first | omega | (simp; done) | (simp; omega))
  obtain ⟨c2_1, f2_1, z2_1, za2_1, zb2_1, zc2_1⟩ := seen hb2 (w.heap.size + 1) (by first | omega | (simp; done) | (simp; omega))
  obtain ⟨c2_2, f2_2, z2_2, za2_2, zb2_2, zc2_2⟩ := seen hb2 (w.heap.size + 1 + 1) (by first | omega | (simp; done) | (simp; omega))
  go_wp2_with (fail)
  go_ret
  refine ⟨rfl, ?_⟩
  repeat (first | (with_reducible exact Below.refl _ _) | (with_reducible refine bs_drewN ?_ _) | (with_reducible refine bs_drew ?_) | (with_reducible refine bs_alloc ?_ _) | (with_reducible refine bs_set ?_ _ (by first | (simp; done) | (simp; omega))) | (with_reducible refine bs_step ?_ (by assumption)))
set_option maxHeartbeats 2000000 in
set_option maxRecDepth 100000 in
theorem law4_g0 (ph sp no si tr me bt spo fr ch x y b0 b1 : Int) (w : World) (h : askOk ph sp no si tr me bt spo fr)  (g0 : 999999980 < fr) : Calls Try.prog 4 #[.agg #[.int .i64 ph, .int .i64 sp, .int .i64 no, .int .i64 si, .int .i64 tr], .int .i64 me, .int .i64 bt, .int .i64 spo, .int .i64 fr, .int .i64 ch, .agg #[.int .i64 x, .int .i64 y], .agg #[.int .u8 b0, .int .u8 b1]] w fun e w' => e = .returned (.bool true) ∧ Below w.heap.size w w' := by
  have t0 : decide (999999980 < fr) = true := decide_eq_true (by omega)
  go_enter Try.func4, Try.ntmps4
  go_wp2_with (fail)
  refine (head_true _).mono ?_
  rintro e w1 ⟨rfl, hb1⟩
  obtain ⟨c1_0, f1_0, z1_0, za1_0, zb1_0, zc1_0⟩ := seen hb1 (w.heap.size) (by first | omega | (simp; done) | (simp; omega))
  obtain ⟨c1_1, f1_1, z1_1, za1_1, zb1_1, zc1_1⟩ := seen hb1 (w.heap.size + 1) (by first | omega | (simp; done) | (simp; omega))
  obtain ⟨c1_2, f1_2, z1_2, za1_2, zb1_2, zc1_2⟩ := seen hb1 (w.heap.size + 1 + 1) (by first | omega | (simp; done) | (simp; omega))
  go_wp2_with (fail)
  refine (ask_ok _ _ _ _ _ _ _ _ _ _ h).mono ?_
  rintro e w2 ⟨rfl, hb2⟩
  obtain ⟨c2_0, f2_0, z2_0, za2_0, zb2_0, zc2_0⟩ := seen hb2 (w.heap.size) (by first | omega | (simp; done) | (simp; omega))
  obtain ⟨c2_1, f2_1, z2_1, za2_1, zb2_1, zc2_1⟩ := seen hb2 (w.heap.size + 1) (by first | omega | (simp; done) | (simp; omega))
  obtain ⟨c2_2, f2_2, z2_2, za2_2, zb2_2, zc2_2⟩ := seen hb2 (w.heap.size + 1 + 1) (by first | omega | (simp; done) | (simp; omega))
  go_wp2_with (fail)
  go_ret
  refine ⟨rfl, ?_⟩
  repeat (first | (with_reducible exact Below.refl _ _) | (with_reducible refine bs_drewN ?_ _) | (with_reducible refine bs_drew ?_) | (with_reducible refine bs_alloc ?_ _) | (with_reducible refine bs_set ?_ _ (by first | (simp; done) | (simp; omega))) | (with_reducible refine bs_step ?_ (by assumption)))
set_option maxHeartbeats 2000000 in
set_option maxRecDepth 100000 in
theorem law4_g1 (ph sp no si tr me bt spo fr ch x y b0 b1 : Int) (w : World) (h : askOk ph sp no si tr me bt spo fr) (g0 : fr ≤ 999999980) (g1 : ch < 0) : Calls Try.prog 4 #[.agg #[.int .i64 ph, .int .i64 sp, .int .i64 no, .int .i64 si, .int .i64 tr], .int .i64 me, .int .i64 bt, .int .i64 spo, .int .i64 fr, .int .i64 ch, .agg #[.int .i64 x, .int .i64 y], .agg #[.int .u8 b0, .int .u8 b1]] w fun e w' => e = .returned (.bool true) ∧ Below w.heap.size w w' := by
  have t0 : decide (999999980 < fr) = false := decide_eq_false (by omega)
  have t1 : decide (ch < 0) = true := decide_eq_true (by omega)
  go_enter Try.func4, Try.ntmps4
  go_wp2_with (fail)
  refine (head_true _).mono ?_
  rintro e w1 ⟨rfl, hb1⟩
  obtain ⟨c1_0, f1_0, z1_0, za1_0, zb1_0, zc1_0⟩ := seen hb1 (w.heap.size) (by first | omega | (simp; done) | (simp; omega))
  obtain ⟨c1_1, f1_1, z1_1, za1_1, zb1_1, zc1_1⟩ := seen hb1 (w.heap.size + 1) (by first | omega | (simp; done) | (simp; omega))
  obtain ⟨c1_2, f1_2, z1_2, za1_2, zb1_2, zc1_2⟩ := seen hb1 (w.heap.size + 1 + 1) (by first | omega | (simp; done) | (simp; omega))
  go_wp2_with (fail)
  refine (ask_ok _ _ _ _ _ _ _ _ _ _ h).mono ?_
  rintro e w2 ⟨rfl, hb2⟩
  obtain ⟨c2_0, f2_0, z2_0, za2_0, zb2_0, zc2_0⟩ := seen hb2 (w.heap.size) (by first | omega | (simp; done) | (simp; omega))
  obtain ⟨c2_1, f2_1, z2_1, za2_1, zb2_1, zc2_1⟩ := seen hb2 (w.heap.size + 1) (by first | omega | (simp; done) | (simp; omega))
  obtain ⟨c2_2, f2_2, z2_2, za2_2, zb2_2, zc2_2⟩ := seen hb2 (w.heap.size + 1 + 1) (by first | omega | (simp; done) | (simp; omega))
  go_wp2_with (fail)
  go_ret
  refine ⟨rfl, ?_⟩
  repeat (first | (with_reducible exact Below.refl _ _) | (with_reducible refine bs_drewN ?_ _) | (with_reducible refine bs_drew ?_) | (with_reducible refine bs_alloc ?_ _) | (with_reducible refine bs_set ?_ _ (by first | (simp; done) | (simp; omega))) | (with_reducible refine bs_step ?_ (by assumption)))
set_option maxHeartbeats 2000000 in
set_option maxRecDepth 100000 in
theorem law4_g2 (ph sp no si tr me bt spo fr ch x y b0 b1 : Int) (w : World) (h : askOk ph sp no si tr me bt spo fr) (g0 : fr ≤ 999999980) (g1 : 0 ≤ ch) (g2 : 1000000000 < ch) : Calls Try.prog 4 #[.agg #[.int .i64 ph, .int .i64 sp, .int .i64 no, .int .i64 si, .int .i64 tr], .int .i64 me, .int .i64 bt, .int .i64 spo, .int .i64 fr, .int .i64 ch, .agg #[.int .i64 x, .int .i64 y], .agg #[.int .u8 b0, .int .u8 b1]] w fun e w' => e = .returned (.bool true) ∧ Below w.heap.size w w' := by
  have t0 : decide (999999980 < fr) = false := decide_eq_false (by omega)
  have t1 : decide (ch < 0) = false := decide_eq_false (by omega)
  have t2 : decide (1000000000 < ch) = true := decide_eq_true (by omega)
  go_enter Try.func4, Try.ntmps4
  go_wp2_with (fail)
  refine (head_true _).mono ?_
  rintro e w1 ⟨rfl, hb1⟩
  obtain ⟨c1_0, f1_0, z1_0, za1_0, zb1_0, zc1_0⟩ := seen hb1 (w.heap.size) (by first | omega | (simp; done) | (simp; omega))
  obtain ⟨c1_1, f1_1, z1_1, za1_1, zb1_1, zc1_1⟩ := seen hb1 (w.heap.size + 1) (by first | omega | (simp; done) | (simp; omega))
  obtain ⟨c1_2, f1_2, z1_2, za1_2, zb1_2, zc1_2⟩ := seen hb1 (w.heap.size + 1 + 1) (by first | omega | (simp; done) | (simp; omega))
  go_wp2_with (fail)
  refine (ask_ok _ _ _ _ _ _ _ _ _ _ h).mono ?_
  rintro e w2 ⟨rfl, hb2⟩
  obtain ⟨c2_0, f2_0, z2_0, za2_0, zb2_0, zc2_0⟩ := seen hb2 (w.heap.size) (by first | omega | (simp; done) | (simp; omega))
  obtain ⟨c2_1, f2_1, z2_1, za2_1, zb2_1, zc2_1⟩ := seen hb2 (w.heap.size + 1) (by first | omega | (simp; done) | (simp; omega))
  obtain ⟨c2_2, f2_2, z2_2, za2_2, zb2_2, zc2_2⟩ := seen hb2 (w.heap.size + 1 + 1) (by first | omega | (simp; done) | (simp; omega))
  go_wp2_with (fail)
  go_ret
  refine ⟨rfl, ?_⟩
  repeat (first | (with_reducible exact Below.refl _ _) | (with_reducible refine bs_drewN ?_ _) | (with_reducible refine bs_drew ?_) | (with_reducible refine bs_alloc ?_ _) | (with_reducible refine bs_set ?_ _ (by first | (simp; done) | (simp; omega))) | (with_reducible refine bs_step ?_ (by assumption)))
set_option maxHeartbeats 2000000 in
set_option maxRecDepth 100000 in
theorem law4_g3 (ph sp no si tr me bt spo fr ch x y b0 b1 : Int) (w : World) (h : askOk ph sp no si tr me bt spo fr) (g0 : fr ≤ 999999980) (g1 : 0 ≤ ch) (g2 : ch ≤ 1000000000) (g3 : x < 0) : Calls Try.prog 4 #[.agg #[.int .i64 ph, .int .i64 sp, .int .i64 no, .int .i64 si, .int .i64 tr], .int .i64 me, .int .i64 bt, .int .i64 spo, .int .i64 fr, .int .i64 ch, .agg #[.int .i64 x, .int .i64 y], .agg #[.int .u8 b0, .int .u8 b1]] w fun e w' => e = .returned (.bool true) ∧ Below w.heap.size w w' := by
  have t0 : decide (999999980 < fr) = false := decide_eq_false (by omega)
  have t1 : decide (ch < 0) = false := decide_eq_false (by omega)
  have t2 : decide (1000000000 < ch) = false := decide_eq_false (by omega)
  have t3 : decide (x < 0) = true := decide_eq_true (by omega)
  go_enter Try.func4, Try.ntmps4
  go_wp2_with (fail)
  refine (head_true _).mono ?_
  rintro e w1 ⟨rfl, hb1⟩
  obtain ⟨c1_0, f1_0, z1_0, za1_0, zb1_0, zc1_0⟩ := seen hb1 (w.heap.size) (by first | omega | (simp; done) | (simp; omega))
  obtain ⟨c1_1, f1_1, z1_1, za1_1, zb1_1, zc1_1⟩ := seen hb1 (w.heap.size + 1) (by first | omega | (simp; done) | (simp; omega))
  obtain ⟨c1_2, f1_2, z1_2, za1_2, zb1_2, zc1_2⟩ := seen hb1 (w.heap.size + 1 + 1) (by first | omega | (simp; done) | (simp; omega))
  go_wp2_with (fail)
  refine (ask_ok _ _ _ _ _ _ _ _ _ _ h).mono ?_
  rintro e w2 ⟨rfl, hb2⟩
  obtain ⟨c2_0, f2_0, z2_0, za2_0, zb2_0, zc2_0⟩ := seen hb2 (w.heap.size) (by first | omega | (simp; done) | (simp; omega))
  obtain ⟨c2_1, f2_1, z2_1, za2_1, zb2_1, zc2_1⟩ := seen hb2 (w.heap.size + 1) (by first | omega | (simp; done) | (simp; omega))
  obtain ⟨c2_2, f2_2, z2_2, za2_2, zb2_2, zc2_2⟩ := seen hb2 (w.heap.size + 1 + 1) (by first | omega | (simp; done) | (simp; omega))
  go_wp2_with (fail)
  go_ret
  refine ⟨rfl, ?_⟩
  repeat (first | (with_reducible exact Below.refl _ _) | (with_reducible refine bs_drewN ?_ _) | (with_reducible refine bs_drew ?_) | (with_reducible refine bs_alloc ?_ _) | (with_reducible refine bs_set ?_ _ (by first | (simp; done) | (simp; omega))) | (with_reducible refine bs_step ?_ (by assumption)))
set_option maxHeartbeats 2000000 in
set_option maxRecDepth 100000 in
theorem law4_g4 (ph sp no si tr me bt spo fr ch x y b0 b1 : Int) (w : World) (h : askOk ph sp no si tr me bt spo fr) (g0 : fr ≤ 999999980) (g1 : 0 ≤ ch) (g2 : ch ≤ 1000000000) (g3 : 0 ≤ x) (g4 : y ≤ x) : Calls Try.prog 4 #[.agg #[.int .i64 ph, .int .i64 sp, .int .i64 no, .int .i64 si, .int .i64 tr], .int .i64 me, .int .i64 bt, .int .i64 spo, .int .i64 fr, .int .i64 ch, .agg #[.int .i64 x, .int .i64 y], .agg #[.int .u8 b0, .int .u8 b1]] w fun e w' => e = .returned (.bool true) ∧ Below w.heap.size w w' := by
  have t0 : decide (999999980 < fr) = false := decide_eq_false (by omega)
  have t1 : decide (ch < 0) = false := decide_eq_false (by omega)
  have t2 : decide (1000000000 < ch) = false := decide_eq_false (by omega)
  have t3 : decide (x < 0) = false := decide_eq_false (by omega)
  have t4 : decide (y ≤ x) = true := decide_eq_true (by omega)
  go_enter Try.func4, Try.ntmps4
  go_wp2_with (fail)
  refine (head_true _).mono ?_
  rintro e w1 ⟨rfl, hb1⟩
  obtain ⟨c1_0, f1_0, z1_0, za1_0, zb1_0, zc1_0⟩ := seen hb1 (w.heap.size) (by first | omega | (simp; done) | (simp; omega))
  obtain ⟨c1_1, f1_1, z1_1, za1_1, zb1_1, zc1_1⟩ := seen hb1 (w.heap.size + 1) (by first | omega | (simp; done) | (simp; omega))
  obtain ⟨c1_2, f1_2, z1_2, za1_2, zb1_2, zc1_2⟩ := seen hb1 (w.heap.size + 1 + 1) (by first | omega | (simp; done) | (simp; omega))
  go_wp2_with (fail)
  refine (ask_ok _ _ _ _ _ _ _ _ _ _ h).mono ?_
  rintro e w2 ⟨rfl, hb2⟩
  obtain ⟨c2_0, f2_0, z2_0, za2_0, zb2_0, zc2_0⟩ := seen hb2 (w.heap.size) (by first | omega | (simp; done) | (simp; omega))
  obtain ⟨c2_1, f2_1, z2_1, za2_1, zb2_1, zc2_1⟩ := seen hb2 (w.heap.size + 1) (by first | omega | (simp; done) | (simp; omega))
  obtain ⟨c2_2, f2_2, z2_2, za2_2, zb2_2, zc2_2⟩ := seen hb2 (w.heap.size + 1 + 1) (by first | omega | (simp; done) | (simp; omega))
  go_wp2_with (fail)
  go_ret
  refine ⟨rfl, ?_⟩
  repeat (first | (with_reducible exact Below.refl _ _) | (with_reducible refine bs_drewN ?_ _) | (with_reducible refine bs_drew ?_) | (with_reducible refine bs_alloc ?_ _) | (with_reducible refine bs_set ?_ _ (by first | (simp; done) | (simp; omega))) | (with_reducible refine bs_step ?_ (by assumption)))
set_option maxHeartbeats 2000000 in
set_option maxRecDepth 100000 in
theorem law4_g5 (ph sp no si tr me bt spo fr ch x y b0 b1 : Int) (w : World) (h : askOk ph sp no si tr me bt spo fr) (g0 : fr ≤ 999999980) (g1 : 0 ≤ ch) (g2 : ch ≤ 1000000000) (g3 : 0 ≤ x) (g4 : x < y) (g5 : 1000000000 < y) : Calls Try.prog 4 #[.agg #[.int .i64 ph, .int .i64 sp, .int .i64 no, .int .i64 si, .int .i64 tr], .int .i64 me, .int .i64 bt, .int .i64 spo, .int .i64 fr, .int .i64 ch, .agg #[.int .i64 x, .int .i64 y], .agg #[.int .u8 b0, .int .u8 b1]] w fun e w' => e = .returned (.bool true) ∧ Below w.heap.size w w' := by
  have t0 : decide (999999980 < fr) = false := decide_eq_false (by omega)
  have t1 : decide (ch < 0) = false := decide_eq_false (by omega)
  have t2 : decide (1000000000 < ch) = false := decide_eq_false (by omega)
  have t3 : decide (x < 0) = false := decide_eq_false (by omega)
  have t4 : decide (y ≤ x) = false := decide_eq_false (by omega)
  have t5 : decide (1000000000 < y) = true := decide_eq_true (by omega)
  go_enter Try.func4, Try.ntmps4
  go_wp2_with (fail)
  refine (head_true _).mono ?_
  rintro e w1 ⟨rfl, hb1⟩
  obtain ⟨c1_0, f1_0, z1_0, za1_0, zb1_0, zc1_0⟩ := seen hb1 (w.heap.size) (by first | omega | (simp; done) | (simp; omega))
  obtain ⟨c1_1, f1_1, z1_1, za1_1, zb1_1, zc1_1⟩ := seen hb1 (w.heap.size + 1) (by first | omega | (simp; done) | (simp; omega))
  obtain ⟨c1_2, f1_2, z1_2, za1_2, zb1_2, zc1_2⟩ := seen hb1 (w.heap.size + 1 + 1) (by first | omega | (simp; done) | (simp; omega))
  go_wp2_with (fail)
  refine (ask_ok _ _ _ _ _ _ _ _ _ _ h).mono ?_
  rintro e w2 ⟨rfl, hb2⟩
  obtain ⟨c2_0, f2_0, z2_0, za2_0, zb2_0, zc2_0⟩ := seen hb2 (w.heap.size) (by first | omega | (simp; done) | (simp; omega))
  obtain ⟨c2_1, f2_1, z2_1, za2_1, zb2_1, zc2_1⟩ := seen hb2 (w.heap.size + 1) (by first | omega | (simp; done) | (simp; omega))
  obtain ⟨c2_2, f2_2, z2_2, za2_2, zb2_2, zc2_2⟩ := seen hb2 (w.heap.size + 1 + 1) (by first | omega | (simp; done) | (simp; omega))
  go_wp2_with (fail)
  go_ret
  refine ⟨rfl, ?_⟩
  repeat (first | (with_reducible exact Below.refl _ _) | (with_reducible refine bs_drewN ?_ _) | (with_reducible refine bs_drew ?_) | (with_reducible refine bs_alloc ?_ _) | (with_reducible refine bs_set ?_ _ (by first | (simp; done) | (simp; omega))) | (with_reducible refine bs_step ?_ (by assumption)))
end Go.Proofs.Yteiiglefbbhinaa
