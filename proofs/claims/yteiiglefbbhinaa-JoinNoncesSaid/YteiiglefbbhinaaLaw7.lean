/-
  JoinNonces: the walks of the law on package join, for every input: the nonces of two questions of a stranger are equal exactly if the boots and the numbers of the tries are.
-/
import Derived.Test.YteiiglefbbhinaaJoinN
import Derived.WalkLawsBesides
import Derived.BigQuiet
import Derived.Deep.RegionHeld3
import Derived.Deep.DeepCutAuto
import Derived.LoopTactic
import Derived.Lib.Hide
namespace Go.Proofs.Yteiiglefbbhinaa
open Go.RowKit
set_option linter.unusedVariables false
set_option linter.unusedSimpArgs false
set_option maxHeartbeats 2000000 in
set_option maxRecDepth 100000 in
theorem law7_a (ph sp no si tr ph2 sp2 no2 si2 tr2 me bt ot spo fr : Int) (w : World) (h : ¬ askOk ph sp no si tr me bt spo fr) : Calls Try.prog 7 #[.agg #[.int .i64 ph, .int .i64 sp, .int .i64 no, .int .i64 si, .int .i64 tr], .agg #[.int .i64 ph2, .int .i64 sp2, .int .i64 no2, .int .i64 si2, .int .i64 tr2], .int .i64 me, .int .i64 bt, .int .i64 ot, .int .i64 spo, .int .i64 fr] w fun e w' => e = .returned (.bool true) ∧ Below w.heap.size w w' := by
  obtain ⟨E, hE, A1⟩ := ask_no _ _ _ _ _ _ _ _ _ h
  obtain ⟨x0, x1, x2, x3, x4, y0, y1, y2, y3, y4, y5, y6, y7, xe, A2, _⟩ := ask_same ph2 sp2 no2 si2 tr2 me ot spo fr
  have A1h := Lib.hid A1
  clear A1
  have A2h := Lib.hid A2
  clear A2
  go_enter Try.func7, Try.ntmps7
  go_wp2_with (fail)
  refine (head_true _).mono ?_
  rintro e w1 ⟨rfl, hb1⟩
  obtain ⟨c1_0, f1_0, z1_0, za1_0, zb1_0, zc1_0⟩ := seen hb1 (w.heap.size) (by first | omega | (simp; done) | (simp; omega))
  obtain ⟨c1_1, f1_1, z1_1, za1_1, zb1_1, zc1_1⟩ := seen hb1 (w.heap.size + 1) (by first | omega | (simp; done) | (simp; omega))
  go_wp2_with (fail)
  refine (A1h.out _).mono ?_
  rintro e w2 ⟨rfl, hb2⟩
  obtain ⟨c2_0, f2_0, z2_0, za2_0, zb2_0, zc2_0⟩ := seen hb2 (w.heap.size) (by first | omega | (simp; done) | (simp; omega))
  obtain ⟨c2_1, f2_1, z2_1, za2_1, zb2_1, zc2_1⟩ := seen hb2 (w.heap.size + 1) (by first | omega | (simp; done) | (simp; omega))
  go_wp2_with (fail)
  refine (A2h.out _).mono ?_
  rintro e w3 ⟨rfl, hb3⟩
  obtain ⟨c3_0, f3_0, z3_0, za3_0, zb3_0, zc3_0⟩ := seen hb3 (w.heap.size) (by first | omega | (simp; done) | (simp; omega))
  obtain ⟨c3_1, f3_1, z3_1, za3_1, zb3_1, zc3_1⟩ := seen hb3 (w.heap.size + 1) (by first | omega | (simp; done) | (simp; omega))
  go_wp2_with (fail)
  go_ret
  refine ⟨rfl, ?_⟩
  repeat (first | (with_reducible exact Below.refl _ _) | (with_reducible refine bs_drewN ?_ _) | (with_reducible refine bs_drew ?_) | (with_reducible refine bs_alloc ?_ _) | (with_reducible refine bs_set ?_ _ (by first | (simp; done) | (simp; omega))) | (with_reducible refine bs_step ?_ (by assumption)))
set_option maxHeartbeats 2000000 in
set_option maxRecDepth 100000 in
theorem law7_b (ph sp no si tr ph2 sp2 no2 si2 tr2 me bt ot spo fr : Int) (w : World) (h : askOk ph sp no si tr me bt spo fr) (h2 : ¬ askOk ph2 sp2 no2 si2 tr2 me ot spo fr) : Calls Try.prog 7 #[.agg #[.int .i64 ph, .int .i64 sp, .int .i64 no, .int .i64 si, .int .i64 tr], .agg #[.int .i64 ph2, .int .i64 sp2, .int .i64 no2, .int .i64 si2, .int .i64 tr2], .int .i64 me, .int .i64 bt, .int .i64 ot, .int .i64 spo, .int .i64 fr] w fun e w' => e = .returned (.bool true) ∧ Below w.heap.size w w' := by
  obtain ⟨E, hE, A2⟩ := ask_no _ _ _ _ _ _ _ _ _ h2
  have A2h := Lib.hid A2
  clear A2
  have hE0 : (E == 0) = false := by simpa using hE
  go_enter Try.func7, Try.ntmps7
  go_wp2_with (fail)
  refine (head_true _).mono ?_
  rintro e w1 ⟨rfl, hb1⟩
  obtain ⟨c1_0, f1_0, z1_0, za1_0, zb1_0, zc1_0⟩ := seen hb1 (w.heap.size) (by first | omega | (simp; done) | (simp; omega))
  obtain ⟨c1_1, f1_1, z1_1, za1_1, zb1_1, zc1_1⟩ := seen hb1 (w.heap.size + 1) (by first | omega | (simp; done) | (simp; omega))
  go_wp2_with (fail)
  refine (ask_ok _ _ _ _ _ _ _ _ _ _ h).mono ?_
  rintro e w2 ⟨rfl, hb2⟩
  obtain ⟨c2_0, f2_0, z2_0, za2_0, zb2_0, zc2_0⟩ := seen hb2 (w.heap.size) (by first | omega | (simp; done) | (simp; omega))
  obtain ⟨c2_1, f2_1, z2_1, za2_1, zb2_1, zc2_1⟩ := seen hb2 (w.heap.size + 1) (by first | omega | (simp; done) | (simp; omega))
  go_wp2_with (fail)
  refine (A2h.out _).mono ?_
  rintro e w3 ⟨rfl, hb3⟩
  obtain ⟨c3_0, f3_0, z3_0, za3_0, zb3_0, zc3_0⟩ := seen hb3 (w.heap.size) (by first | omega | (simp; done) | (simp; omega))
  obtain ⟨c3_1, f3_1, z3_1, za3_1, zb3_1, zc3_1⟩ := seen hb3 (w.heap.size + 1) (by first | omega | (simp; done) | (simp; omega))
  go_wp2_with (fail)
  go_ret
  refine ⟨rfl, ?_⟩
  repeat (first | (with_reducible exact Below.refl _ _) | (with_reducible refine bs_drewN ?_ _) | (with_reducible refine bs_drew ?_) | (with_reducible refine bs_alloc ?_ _) | (with_reducible refine bs_set ?_ _ (by first | (simp; done) | (simp; omega))) | (with_reducible refine bs_step ?_ (by assumption)))
set_option maxHeartbeats 2000000 in
set_option maxRecDepth 100000 in
theorem law7_c (ph sp no si tr ph2 sp2 no2 si2 tr2 me bt ot spo fr : Int) (w : World) (h : askOk ph sp no si tr me bt spo fr) (h2 : askOk ph2 sp2 no2 si2 tr2 me ot spo fr) (he : bt = ot) (ht : tr = tr2) : Calls Try.prog 7 #[.agg #[.int .i64 ph, .int .i64 sp, .int .i64 no, .int .i64 si, .int .i64 tr], .agg #[.int .i64 ph2, .int .i64 sp2, .int .i64 no2, .int .i64 si2, .int .i64 tr2], .int .i64 me, .int .i64 bt, .int .i64 ot, .int .i64 spo, .int .i64 fr] w fun e w' => e = .returned (.bool true) ∧ Below w.heap.size w w' := by
  obtain ⟨_, _, _, _, ⟨r0, r1⟩⟩ := valid_si h.1.1
  obtain ⟨_, _, _, _, ⟨q0, q1⟩⟩ := valid_si h2.1.1
  have r2 := h.2.2
  have q2 := h2.2.2
  have n1 : (256 * bt + tr + 1 == 256 * ot + tr2 + 1) = true := beq_iff_eq.2 (by omega)
  have n2 : (bt == ot) = true := beq_iff_eq.2 he
  have n3 : (tr == tr2) = true := beq_iff_eq.2 ht
  have n4 : (256 * bt + tr == 256 * ot + tr2) = true := beq_iff_eq.2 (by omega)
  clear r2 q2 he ht
  go_enter Try.func7, Try.ntmps7
  go_wp2_with (fail)
  refine (head_true _).mono ?_
  rintro e w1 ⟨rfl, hb1⟩
  obtain ⟨c1_0, f1_0, z1_0, za1_0, zb1_0, zc1_0⟩ := seen hb1 (w.heap.size) (by first | omega | (simp; done) | (simp; omega))
  obtain ⟨c1_1, f1_1, z1_1, za1_1, zb1_1, zc1_1⟩ := seen hb1 (w.heap.size + 1) (by first | omega | (simp; done) | (simp; omega))
  go_wp2_with (fail)
  refine (ask_ok _ _ _ _ _ _ _ _ _ _ h).mono ?_
  rintro e w2 ⟨rfl, hb2⟩
  obtain ⟨c2_0, f2_0, z2_0, za2_0, zb2_0, zc2_0⟩ := seen hb2 (w.heap.size) (by first | omega | (simp; done) | (simp; omega))
  obtain ⟨c2_1, f2_1, z2_1, za2_1, zb2_1, zc2_1⟩ := seen hb2 (w.heap.size + 1) (by first | omega | (simp; done) | (simp; omega))
  go_wp2_with (fail)
  refine (ask_ok _ _ _ _ _ _ _ _ _ _ h2).mono ?_
  rintro e w3 ⟨rfl, hb3⟩
  obtain ⟨c3_0, f3_0, z3_0, za3_0, zb3_0, zc3_0⟩ := seen hb3 (w.heap.size) (by first | omega | (simp; done) | (simp; omega))
  obtain ⟨c3_1, f3_1, z3_1, za3_1, zb3_1, zc3_1⟩ := seen hb3 (w.heap.size + 1) (by first | omega | (simp; done) | (simp; omega))
  obtain ⟨c3_2, f3_2, z3_2, za3_2, zb3_2, zc3_2⟩ := seen hb3 (w2.heap.size) (by first | omega | (simp; done) | (simp; omega))
  obtain ⟨c3_3, f3_3, z3_3, za3_3, zb3_3, zc3_3⟩ := seen hb3 (w2.heap.size + 1) (by first | omega | (simp; done) | (simp; omega))
  go_wp2_with (fail)
  go_ret
  refine ⟨rfl, ?_⟩
  repeat (first | (with_reducible exact Below.refl _ _) | (with_reducible refine bs_drewN ?_ _) | (with_reducible refine bs_drew ?_) | (with_reducible refine bs_alloc ?_ _) | (with_reducible refine bs_set ?_ _ (by first | (simp; done) | (simp; omega))) | (with_reducible refine bs_step ?_ (by assumption)))
set_option maxHeartbeats 2000000 in
set_option maxRecDepth 100000 in
theorem law7_d (ph sp no si tr ph2 sp2 no2 si2 tr2 me bt ot spo fr : Int) (w : World) (h : askOk ph sp no si tr me bt spo fr) (h2 : askOk ph2 sp2 no2 si2 tr2 me ot spo fr) (he : bt ≠ ot) : Calls Try.prog 7 #[.agg #[.int .i64 ph, .int .i64 sp, .int .i64 no, .int .i64 si, .int .i64 tr], .agg #[.int .i64 ph2, .int .i64 sp2, .int .i64 no2, .int .i64 si2, .int .i64 tr2], .int .i64 me, .int .i64 bt, .int .i64 ot, .int .i64 spo, .int .i64 fr] w fun e w' => e = .returned (.bool true) ∧ Below w.heap.size w w' := by
  obtain ⟨_, _, _, _, ⟨r0, r1⟩⟩ := valid_si h.1.1
  obtain ⟨_, _, _, _, ⟨q0, q1⟩⟩ := valid_si h2.1.1
  have r2 := h.2.2
  have q2 := h2.2.2
  have n1 : (256 * bt + tr + 1 == 256 * ot + tr2 + 1) = false := beq_eq_false_iff_ne.2 (by omega)
  have n2 : (bt == ot) = false := beq_eq_false_iff_ne.2 he
  have n4 : (256 * bt + tr == 256 * ot + tr2) = false := beq_eq_false_iff_ne.2 (by omega)
  clear r2 q2 he
  go_enter Try.func7, Try.ntmps7
  go_wp2_with (fail)
  refine (head_true _).mono ?_
  rintro e w1 ⟨rfl, hb1⟩
  obtain ⟨c1_0, f1_0, z1_0, za1_0, zb1_0, zc1_0⟩ := seen hb1 (w.heap.size) (by first | omega | (simp; done) | (simp; omega))
  obtain ⟨c1_1, f1_1, z1_1, za1_1, zb1_1, zc1_1⟩ := seen hb1 (w.heap.size + 1) (by first | omega | (simp; done) | (simp; omega))
  go_wp2_with (fail)
  refine (ask_ok _ _ _ _ _ _ _ _ _ _ h).mono ?_
  rintro e w2 ⟨rfl, hb2⟩
  obtain ⟨c2_0, f2_0, z2_0, za2_0, zb2_0, zc2_0⟩ := seen hb2 (w.heap.size) (by first | omega | (simp; done) | (simp; omega))
  obtain ⟨c2_1, f2_1, z2_1, za2_1, zb2_1, zc2_1⟩ := seen hb2 (w.heap.size + 1) (by first | omega | (simp; done) | (simp; omega))
  go_wp2_with (fail)
  refine (ask_ok _ _ _ _ _ _ _ _ _ _ h2).mono ?_
  rintro e w3 ⟨rfl, hb3⟩
  obtain ⟨c3_0, f3_0, z3_0, za3_0, zb3_0, zc3_0⟩ := seen hb3 (w.heap.size) (by first | omega | (simp; done) | (simp; omega))
  obtain ⟨c3_1, f3_1, z3_1, za3_1, zb3_1, zc3_1⟩ := seen hb3 (w.heap.size + 1) (by first | omega | (simp; done) | (simp; omega))
  obtain ⟨c3_2, f3_2, z3_2, za3_2, zb3_2, zc3_2⟩ := seen hb3 (w2.heap.size) (by first | omega | (simp; done) | (simp; omega))
  obtain ⟨c3_3, f3_3, z3_3, za3_3, zb3_3, zc3_3⟩ := seen hb3 (w2.heap.size + 1) (by first | omega | (simp; done) | (simp; omega))
  go_wp2_with (fail)
  go_ret
  refine ⟨rfl, ?_⟩
  repeat (first | (with_reducible exact Below.refl _ _) | (with_reducible refine bs_drewN ?_ _) | (with_reducible refine bs_drew ?_) | (with_reducible refine bs_alloc ?_ _) | (with_reducible refine bs_set ?_ _ (by first | (simp; done) | (simp; omega))) | (with_reducible refine bs_step ?_ (by assumption)))
set_option maxHeartbeats 2000000 in
set_option maxRecDepth 100000 in
theorem law7_e (ph sp no si tr ph2 sp2 no2 si2 tr2 me bt ot spo fr : Int) (w : World) (h : askOk ph sp no si tr me bt spo fr) (h2 : askOk ph2 sp2 no2 si2 tr2 me ot spo fr) (he : bt = ot) (ht : tr ≠ tr2) : Calls Try.prog 7 #[.agg #[.int .i64 ph, .int .i64 sp, .int .i64 no, .int .i64 si, .int .i64 tr], .agg #[.int .i64 ph2, .int .i64 sp2, .int .i64 no2, .int .i64 si2, .int .i64 tr2], .int .i64 me, .int .i64 bt, .int .i64 ot, .int .i64 spo, .int .i64 fr] w fun e w' => e = .returned (.bool true) ∧ Below w.heap.size w w' := by
  obtain ⟨_, _, _, _, ⟨r0, r1⟩⟩ := valid_si h.1.1
  obtain ⟨_, _, _, _, ⟨q0, q1⟩⟩ := valid_si h2.1.1
  have r2 := h.2.2
  have q2 := h2.2.2
  have n1 : (256 * bt + tr + 1 == 256 * ot + tr2 + 1) = false := beq_eq_false_iff_ne.2 (by omega)
  have n2 : (bt == ot) = true := beq_iff_eq.2 he
  have n3 : (tr == tr2) = false := beq_eq_false_iff_ne.2 ht
  have n4 : (256 * bt + tr == 256 * ot + tr2) = false := beq_eq_false_iff_ne.2 (by omega)
  clear r2 q2 he ht
  go_enter Try.func7, Try.ntmps7
  go_wp2_with (fail)
  refine (head_true _).mono ?_
  rintro e w1 ⟨rfl, hb1⟩
  obtain ⟨c1_0, f1_0, z1_0, za1_0, zb1_0, zc1_0⟩ := seen hb1 (w.heap.size) (by first | omega | (simp; done) | (simp; omega))
  obtain ⟨c1_1, f1_1, z1_1, za1_1, zb1_1, zc1_1⟩ := seen hb1 (w.heap.size + 1) (by first | omega | (simp; done) | (simp; omega))
  go_wp2_with (fail)
  refine (ask_ok _ _ _ _ _ _ _ _ _ _ h).mono ?_
  rintro e w2 ⟨rfl, hb2⟩
  obtain ⟨c2_0, f2_0, z2_0, za2_0, zb2_0, zc2_0⟩ := seen hb2 (w.heap.size) (by first | omega | (simp; done) | (simp; omega))
  obtain ⟨c2_1, f2_1, z2_1, za2_1, zb2_1, zc2_1⟩ := seen hb2 (w.heap.size + 1) (by first | omega | (simp; done) | (simp; omega))
  go_wp2_with (fail)
  refine (ask_ok _ _ _ _ _ _ _ _ _ _ h2).mono ?_
  rintro e w3 ⟨rfl, hb3⟩
  obtain ⟨c3_0, f3_0, z3_0, za3_0, zb3_0, zc3_0⟩ := seen hb3 (w.heap.size) (by first | omega | (simp; done) | (simp; omega))
  obtain ⟨c3_1, f3_1, z3_1, za3_1, zb3_1, zc3_1⟩ := seen hb3 (w.heap.size + 1) (by first | omega | (simp; done) | (simp; omega))
  obtain ⟨c3_2, f3_2, z3_2, za3_2, zb3_2, zc3_2⟩ := seen hb3 (w2.heap.size) (by first | omega | (simp; done) | (simp; omega))
  obtain ⟨c3_3, f3_3, z3_3, za3_3, zb3_3, zc3_3⟩ := seen hb3 (w2.heap.size + 1) (by first | omega | (simp; done) | (simp; omega))
  go_wp2_with (fail)
  go_ret
  refine ⟨rfl, ?_⟩
  repeat (first | (with_reducible exact Below.refl _ _) | (with_reducible refine bs_drewN ?_ _) | (with_reducible refine bs_drew ?_) | (with_reducible refine bs_alloc ?_ _) | (with_reducible refine bs_set ?_ _ (by first | (simp; done) | (simp; omega))) | (with_reducible refine bs_step ?_ (by assumption)))
theorem law7_all (ph sp no si tr ph2 sp2 no2 si2 tr2 me bt ot spo fr : Int) (w : World) : Calls Try.prog 7 #[.agg #[.int .i64 ph, .int .i64 sp, .int .i64 no, .int .i64 si, .int .i64 tr], .agg #[.int .i64 ph2, .int .i64 sp2, .int .i64 no2, .int .i64 si2, .int .i64 tr2], .int .i64 me, .int .i64 bt, .int .i64 ot, .int .i64 spo, .int .i64 fr] w fun e w' => e = .returned (.bool true) ∧ Below w.heap.size w w' := by
  by_cases h : askOk ph sp no si tr me bt spo fr
  rotate_left
  · exact law7_a _ _ _ _ _ _ _ _ _ _ _ _ _ _ _ w h
  by_cases h2 : askOk ph2 sp2 no2 si2 tr2 me ot spo fr
  rotate_left
  · exact law7_b _ _ _ _ _ _ _ _ _ _ _ _ _ _ _ w h h2
  by_cases he : bt = ot
  · by_cases ht : tr = tr2
    · exact law7_c _ _ _ _ _ _ _ _ _ _ _ _ _ _ _ w h h2 he ht
    · exact law7_e _ _ _ _ _ _ _ _ _ _ _ _ _ _ _ w h h2 he ht
  · exact law7_d _ _ _ _ _ _ _ _ _ _ _ _ _ _ _ w h h2 he
end Go.Proofs.Yteiiglefbbhinaa
