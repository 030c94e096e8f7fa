/-
  JoinForged: the walks of the law on package join, for every input: a word for another stranger, by another sponsor, with another nonce, or a welcome with another key than the own one changes nothing and is not answered.
-/
import Derived.Test.YteiiglefbbhinaaJoinN
import Derived.WalkLawsBesides
import Derived.BigQuiet
import Derived.Deep.RegionHeld3
import Derived.Deep.DeepCutAuto
import Derived.LoopTactic
import Derived.Lib.Hide
namespace Go.Proofs.Yteiiglefbbhinaa
open Go.RowKit
set_option linter.unusedVariables false
set_option linter.unusedSimpArgs false
set_option maxHeartbeats 2000000 in
set_option maxRecDepth 100000 in
theorem law6_r0 (ph sp no si tr k st ws wn ch key f n me fr : Int) (w : World) (h : ¬ hearP ph sp no si tr k st ws wn ch fr me) (g0 : st ≠ me) : Calls Try.prog 6 #[.agg #[.int .i64 ph, .int .i64 sp, .int .i64 no, .int .i64 si, .int .i64 tr], .int .i64 me, .agg #[.int .i64 k, .int .i64 st, .int .i64 ws, .int .i64 wn, .int .i64 ch, .int .i64 key, .int .i64 f, .int .i64 n], .int .i64 fr] w fun e w' => e = .returned (.bool true) ∧ Below w.heap.size w w' := by
  have HH := Lib.hid h
  have t0 : (st != me) = true := by rw [bne_iff_ne]; exact g0
  clear h g0
  go_enter Try.func6, Try.ntmps6
  go_wp2_with (fail)
  refine (head_true _).mono ?_
  rintro e w1 ⟨rfl, hb1⟩
  obtain ⟨c1_0, f1_0, z1_0, za1_0, zb1_0, zc1_0⟩ := seen hb1 (w.heap.size) (by first | omega | (simp; done) | (simp; omega))
  obtain ⟨c1_1, f1_1, z1_1, za1_1, zb1_1, zc1_1⟩ := seen hb1 (w.heap.size + 1) (by first | omega | (simp; done) | (simp; omega))
  go_wp2_with (fail)
  refine (hear_refused _ _ _ _ _ _ _ _ _ _ _ _ _ _ _ _ HH.out).mono ?_
  rintro e w2 ⟨rfl, hb2⟩
  obtain ⟨c2_0, f2_0, z2_0, za2_0, zb2_0, zc2_0⟩ := seen hb2 (w.heap.size) (by first | omega | (simp; done) | (simp; omega))
  obtain ⟨c2_1, f2_1, z2_1, za2_1, zb2_1, zc2_1⟩ := seen hb2 (w.heap.size + 1) (by first | omega | (simp; done) | (simp; omega))
  go_wp2_with (fail)
  go_ret
  refine ⟨rfl, ?_⟩
  repeat (first | (with_reducible exact Below.refl _ _) | (with_reducible refine bs_drewN ?_ _) | (with_reducible refine bs_drew ?_) | (with_reducible refine bs_alloc ?_ _) | (with_reducible refine bs_set ?_ _ (by first | (simp; done) | (simp; omega))) | (with_reducible refine bs_step ?_ (by assumption)))
set_option maxHeartbeats 2000000 in
set_option maxRecDepth 100000 in
theorem law6_r1 (ph sp no si tr k st ws wn ch key f n me fr : Int) (w : World) (h : ¬ hearP ph sp no si tr k st ws wn ch fr me) (g0 : st = me) (g1 : ws ≠ sp) : Calls Try.prog 6 #[.agg #[.int .i64 ph, .int .i64 sp, .int .i64 no, .int .i64 si, .int .i64 tr], .int .i64 me, .agg #[.int .i64 k, .int .i64 st, .int .i64 ws, .int .i64 wn, .int .i64 ch, .int .i64 key, .int .i64 f, .int .i64 n], .int .i64 fr] w fun e w' => e = .returned (.bool true) ∧ Below w.heap.size w w' := by
  have HH := Lib.hid h
  have t0 : (st != me) = false := by rw [bne_eq_false_iff_eq]; exact g0
  have t1 : (ws != sp) = true := by rw [bne_iff_ne]; exact g1
  clear h g0 g1
  go_enter Try.func6, Try.ntmps6
  go_wp2_with (fail)
  refine (head_true _).mono ?_
  rintro e w1 ⟨rfl, hb1⟩
  obtain ⟨c1_0, f1_0, z1_0, za1_0, zb1_0, zc1_0⟩ := seen hb1 (w.heap.size) (by first | omega | (simp; done) | (simp; omega))
  obtain ⟨c1_1, f1_1, z1_1, za1_1, zb1_1, zc1_1⟩ := seen hb1 (w.heap.size + 1) (by first | omega | (simp; done) | (simp; omega))
  go_wp2_with (fail)
  refine (hear_refused _ _ _ _ _ _ _ _ _ _ _ _ _ _ _ _ HH.out).mono ?_
  rintro e w2 ⟨rfl, hb2⟩
  obtain ⟨c2_0, f2_0, z2_0, za2_0, zb2_0, zc2_0⟩ := seen hb2 (w.heap.size) (by first | omega | (simp; done) | (simp; omega))
  obtain ⟨c2_1, f2_1, z2_1, za2_1, zb2_1, zc2_1⟩ := seen hb2 (w.heap.size + 1) (by first | omega | (simp; done) | (simp; omega))
  go_wp2_with (fail)
  go_ret
  refine ⟨rfl, ?_⟩
  repeat (first | (with_reducible exact Below.refl _ _) | (with_reducible refine bs_drewN ?_ _) | (with_reducible refine bs_drew ?_) | (with_reducible refine bs_alloc ?_ _) | (with_reducible refine bs_set ?_ _ (by first | (simp; done) | (simp; omega))) | (with_reducible refine bs_step ?_ (by assumption)))
set_option maxHeartbeats 2000000 in
set_option maxRecDepth 100000 in
theorem law6_r2 (ph sp no si tr k st ws wn ch key f n me fr : Int) (w : World) (h : ¬ hearP ph sp no si tr k st ws wn ch fr me) (g0 : st = me) (g1 : ws = sp) (g2 : wn ≠ no) : Calls Try.prog 6 #[.agg #[.int .i64 ph, .int .i64 sp, .int .i64 no, .int .i64 si, .int .i64 tr], .int .i64 me, .agg #[.int .i64 k, .int .i64 st, .int .i64 ws, .int .i64 wn, .int .i64 ch, .int .i64 key, .int .i64 f, .int .i64 n], .int .i64 fr] w fun e w' => e = .returned (.bool true) ∧ Below w.heap.size w w' := by
  have HH := Lib.hid h
  have t0 : (st != me) = false := by rw [bne_eq_false_iff_eq]; exact g0
  have t1 : (ws != sp) = false := by rw [bne_eq_false_iff_eq]; exact g1
  have t2 : (wn != no) = true := by rw [bne_iff_ne]; exact g2
  clear h g0 g1 g2
  go_enter Try.func6, Try.ntmps6
  go_wp2_with (fail)
  refine (head_true _).mono ?_
  rintro e w1 ⟨rfl, hb1⟩
  obtain ⟨c1_0, f1_0, z1_0, za1_0, zb1_0, zc1_0⟩ := seen hb1 (w.heap.size) (by first | omega | (simp; done) | (simp; omega))
  obtain ⟨c1_1, f1_1, z1_1, za1_1, zb1_1, zc1_1⟩ := seen hb1 (w.heap.size + 1) (by first | omega | (simp; done) | (simp; omega))
  go_wp2_with (fail)
  refine (hear_refused _ _ _ _ _ _ _ _ _ _ _ _ _ _ _ _ HH.out).mono ?_
  rintro e w2 ⟨rfl, hb2⟩
  obtain ⟨c2_0, f2_0, z2_0, za2_0, zb2_0, zc2_0⟩ := seen hb2 (w.heap.size) (by first | omega | (simp; done) | (simp; omega))
  obtain ⟨c2_1, f2_1, z2_1, za2_1, zb2_1, zc2_1⟩ := seen hb2 (w.heap.size + 1) (by first | omega | (simp; done) | (simp; omega))
  go_wp2_with (fail)
  go_ret
  refine ⟨rfl, ?_⟩
  repeat (first | (with_reducible exact Below.refl _ _) | (with_reducible refine bs_drewN ?_ _) | (with_reducible refine bs_drew ?_) | (with_reducible refine bs_alloc ?_ _) | (with_reducible refine bs_set ?_ _ (by first | (simp; done) | (simp; omega))) | (with_reducible refine bs_step ?_ (by assumption)))
set_option maxHeartbeats 2000000 in
set_option maxRecDepth 100000 in
theorem law6_r3 (ph sp no si tr k st ws wn ch key f n me fr : Int) (w : World) (h : ¬ hearP ph sp no si tr k st ws wn ch fr me) (g0 : st = me) (g1 : ws = sp) (g2 : wn = no) (g3 : k ≠ 4) : Calls Try.prog 6 #[.agg #[.int .i64 ph, .int .i64 sp, .int .i64 no, .int .i64 si, .int .i64 tr], .int .i64 me, .agg #[.int .i64 k, .int .i64 st, .int .i64 ws, .int .i64 wn, .int .i64 ch, .int .i64 key, .int .i64 f, .int .i64 n], .int .i64 fr] w fun e w' => e = .returned (.bool true) ∧ Below w.heap.size w w' := by
  have HH := Lib.hid h
  have t0 : (st != me) = false := by rw [bne_eq_false_iff_eq]; exact g0
  have t1 : (ws != sp) = false := by rw [bne_eq_false_iff_eq]; exact g1
  have t2 : (wn != no) = false := by rw [bne_eq_false_iff_eq]; exact g2
  have t3 : (k == 4) = false := beq_eq_false_iff_ne.2 g3
  clear h g0 g1 g2 g3
  go_enter Try.func6, Try.ntmps6
  go_wp2_with (fail)
  refine (head_true _).mono ?_
  rintro e w1 ⟨rfl, hb1⟩
  obtain ⟨c1_0, f1_0, z1_0, za1_0, zb1_0, zc1_0⟩ := seen hb1 (w.heap.size) (by first | omega | (simp; done) | (simp; omega))
  obtain ⟨c1_1, f1_1, z1_1, za1_1, zb1_1, zc1_1⟩ := seen hb1 (w.heap.size + 1) (by first | omega | (simp; done) | (simp; omega))
  go_wp2_with (fail)
  refine (hear_refused _ _ _ _ _ _ _ _ _ _ _ _ _ _ _ _ HH.out).mono ?_
  rintro e w2 ⟨rfl, hb2⟩
  obtain ⟨c2_0, f2_0, z2_0, za2_0, zb2_0, zc2_0⟩ := seen hb2 (w.heap.size) (by first | omega | (simp; done) | (simp; omega))
  obtain ⟨c2_1, f2_1, z2_1, za2_1, zb2_1, zc2_1⟩ := seen hb2 (w.heap.size + 1) (by first | omega | (simp; done) | (simp; omega))
  go_wp2_with (fail)
  go_ret
  refine ⟨rfl, ?_⟩
  repeat (first | (with_reducible exact Below.refl _ _) | (with_reducible refine bs_drewN ?_ _) | (with_reducible refine bs_drew ?_) | (with_reducible refine bs_alloc ?_ _) | (with_reducible refine bs_set ?_ _ (by first | (simp; done) | (simp; omega))) | (with_reducible refine bs_step ?_ (by assumption)))
set_option maxHeartbeats 2000000 in
set_option maxRecDepth 100000 in
theorem law6_r4 (ph sp no si tr k st ws wn ch key f n me fr : Int) (w : World) (h : ¬ hearP ph sp no si tr k st ws wn ch fr me) (g0 : st = me) (g1 : ws = sp) (g2 : wn = no) (g3 : k = 4) (g4 : key ≠ wrap64 (1000000 + me)) : Calls Try.prog 6 #[.agg #[.int .i64 ph, .int .i64 sp, .int .i64 no, .int .i64 si, .int .i64 tr], .int .i64 me, .agg #[.int .i64 k, .int .i64 st, .int .i64 ws, .int .i64 wn, .int .i64 ch, .int .i64 key, .int .i64 f, .int .i64 n], .int .i64 fr] w fun e w' => e = .returned (.bool true) ∧ Below w.heap.size w w' := by
  have HH := Lib.hid h
  have t0 : (st != me) = false := by rw [bne_eq_false_iff_eq]; exact g0
  have t1 : (ws != sp) = false := by rw [bne_eq_false_iff_eq]; exact g1
  have t2 : (wn != no) = false := by rw [bne_eq_false_iff_eq]; exact g2
  have t3 : (k == 4) = true := beq_iff_eq.2 g3
  have t4 : (key != wrap64 (1000000 + me)) = true := by rw [bne_iff_ne]; exact g4
  clear h g0 g1 g2 g3 g4
  go_enter Try.func6, Try.ntmps6
  go_wp2_with (fail)
  refine (head_true _).mono ?_
  rintro e w1 ⟨rfl, hb1⟩
  obtain ⟨c1_0, f1_0, z1_0, za1_0, zb1_0, zc1_0⟩ := seen hb1 (w.heap.size) (by first | omega | (simp; done) | (simp; omega))
  obtain ⟨c1_1, f1_1, z1_1, za1_1, zb1_1, zc1_1⟩ := seen hb1 (w.heap.size + 1) (by first | omega | (simp; done) | (simp; omega))
  go_wp2_with (fail)
  refine (hear_refused _ _ _ _ _ _ _ _ _ _ _ _ _ _ _ _ HH.out).mono ?_
  rintro e w2 ⟨rfl, hb2⟩
  obtain ⟨c2_0, f2_0, z2_0, za2_0, zb2_0, zc2_0⟩ := seen hb2 (w.heap.size) (by first | omega | (simp; done) | (simp; omega))
  obtain ⟨c2_1, f2_1, z2_1, za2_1, zb2_1, zc2_1⟩ := seen hb2 (w.heap.size + 1) (by first | omega | (simp; done) | (simp; omega))
  go_wp2_with (fail)
  go_ret
  refine ⟨rfl, ?_⟩
  repeat (first | (with_reducible exact Below.refl _ _) | (with_reducible refine bs_drewN ?_ _) | (with_reducible refine bs_drew ?_) | (with_reducible refine bs_alloc ?_ _) | (with_reducible refine bs_set ?_ _ (by first | (simp; done) | (simp; omega))) | (with_reducible refine bs_step ?_ (by assumption)))
set_option maxHeartbeats 2000000 in
set_option maxRecDepth 100000 in
theorem law6_r5 (ph sp no si tr k st ws wn ch key f n me fr : Int) (w : World) (h : ¬ hearP ph sp no si tr k st ws wn ch fr me) (g0 : st = me) (g1 : ws = sp) (g2 : wn = no) (g3 : k = 4) (g4 : key = wrap64 (1000000 + me)) : Calls Try.prog 6 #[.agg #[.int .i64 ph, .int .i64 sp, .int .i64 no, .int .i64 si, .int .i64 tr], .int .i64 me, .agg #[.int .i64 k, .int .i64 st, .int .i64 ws, .int .i64 wn, .int .i64 ch, .int .i64 key, .int .i64 f, .int .i64 n], .int .i64 fr] w fun e w' => e = .returned (.bool true) ∧ Below w.heap.size w w' := by
  have HH := Lib.hid h
  have t0 : (st != me) = false := by rw [bne_eq_false_iff_eq]; exact g0
  have t1 : (ws != sp) = false := by rw [bne_eq_false_iff_eq]; exact g1
  have t2 : (wn != no) = false := by rw [bne_eq_false_iff_eq]; exact g2
  have t3 : (k == 4) = true := beq_iff_eq.2 g3
  have t4 : (key != wrap64 (1000000 + me)) = false := by rw [bne_eq_false_iff_eq]; exact g4
  clear h g0 g1 g2 g3 g4
  go_enter Try.func6, Try.ntmps6
  go_wp2_with (fail)
  refine (head_true _).mono ?_
  rintro e w1 ⟨rfl, hb1⟩
  obtain ⟨c1_0, f1_0, z1_0, za1_0, zb1_0, zc1_0⟩ := seen hb1 (w.heap.size) (by first | omega | (simp; done) | (simp; omega))
  obtain ⟨c1_1, f1_1, z1_1, za1_1, zb1_1, zc1_1⟩ := seen hb1 (w.heap.size + 1) (by first | omega | (simp; done) | (simp; omega))
  go_wp2_with (fail)
  refine (hear_refused _ _ _ _ _ _ _ _ _ _ _ _ _ _ _ _ HH.out).mono ?_
  rintro e w2 ⟨rfl, hb2⟩
  obtain ⟨c2_0, f2_0, z2_0, za2_0, zb2_0, zc2_0⟩ := seen hb2 (w.heap.size) (by first | omega | (simp; done) | (simp; omega))
  obtain ⟨c2_1, f2_1, z2_1, za2_1, zb2_1, zc2_1⟩ := seen hb2 (w.heap.size + 1) (by first | omega | (simp; done) | (simp; omega))
  go_wp2_with (fail)
  go_ret
  refine ⟨rfl, ?_⟩
  repeat (first | (with_reducible exact Below.refl _ _) | (with_reducible refine bs_drewN ?_ _) | (with_reducible refine bs_drew ?_) | (with_reducible refine bs_alloc ?_ _) | (with_reducible refine bs_set ?_ _ (by first | (simp; done) | (simp; omega))) | (with_reducible refine bs_step ?_ (by assumption)))
set_option maxHeartbeats 2000000 in
set_option maxRecDepth 100000 in
theorem law6_c1 (sp no si tr ch key f n me fr : Int) (w : World) (hv : validB 1 sp no si tr = true) (hf : formedB 2 me sp no ch = true) (f0 : 0 ≤ fr) (f1 : fr ≤ 1000000000)  : Calls Try.prog 6 #[.agg #[.int .i64 1, .int .i64 sp, .int .i64 no, .int .i64 si, .int .i64 tr], .int .i64 me, .agg #[.int .i64 2, .int .i64 me, .int .i64 sp, .int .i64 no, .int .i64 ch, .int .i64 key, .int .i64 f, .int .i64 n], .int .i64 fr] w fun e w' => e = .returned (.bool true) ∧ Below w.heap.size w w' := by
  obtain ⟨⟨n0, n1⟩, _⟩ := formed_of hf
  go_enter Try.func6, Try.ntmps6
  go_wp2_with (fail)
  refine (head_true _).mono ?_
  rintro e w1 ⟨rfl, hb1⟩
  obtain ⟨c1_0, f1_0, z1_0, za1_0, zb1_0, zc1_0⟩ := seen hb1 (w.heap.size) (by first | omega | (simp; done) | (simp; omega))
  obtain ⟨c1_1, f1_1, z1_1, za1_1, zb1_1, zc1_1⟩ := seen hb1 (w.heap.size + 1) (by first | omega | (simp; done) | (simp; omega))
  go_wp2_with (fail)
  refine (hear_c1 _ _ _ _ _ _ _ _ _ _ _ hv hf f0 f1 ).mono ?_
  rintro e w2 ⟨rfl, hb2⟩
  obtain ⟨c2_0, f2_0, z2_0, za2_0, zb2_0, zc2_0⟩ := seen hb2 (w.heap.size) (by first | omega | (simp; done) | (simp; omega))
  obtain ⟨c2_1, f2_1, z2_1, za2_1, zb2_1, zc2_1⟩ := seen hb2 (w.heap.size + 1) (by first | omega | (simp; done) | (simp; omega))
  go_wp2_with (fail)
  go_quiet (fail)
  go_wp2_with (fail)
  go_ret
  refine ⟨rfl, ?_⟩
  repeat (first | (with_reducible exact Below.refl _ _) | (with_reducible refine bs_drewN ?_ _) | (with_reducible refine bs_drew ?_) | (with_reducible refine bs_alloc ?_ _) | (with_reducible refine bs_set ?_ _ (by first | (simp; done) | (simp; omega))) | (with_reducible refine bs_step ?_ (by assumption)))
set_option maxHeartbeats 2000000 in
set_option maxRecDepth 100000 in
theorem law6_c2 (sp no si tr ch key f n me fr : Int) (w : World) (hv : validB 2 sp no si tr = true) (hf : formedB 2 me sp no ch = true) (f0 : 0 ≤ fr) (f1 : fr ≤ 1000000000)  : Calls Try.prog 6 #[.agg #[.int .i64 2, .int .i64 sp, .int .i64 no, .int .i64 si, .int .i64 tr], .int .i64 me, .agg #[.int .i64 2, .int .i64 me, .int .i64 sp, .int .i64 no, .int .i64 ch, .int .i64 key, .int .i64 f, .int .i64 n], .int .i64 fr] w fun e w' => e = .returned (.bool true) ∧ Below w.heap.size w w' := by
  obtain ⟨⟨n0, n1⟩, _⟩ := formed_of hf
  go_enter Try.func6, Try.ntmps6
  go_wp2_with (fail)
  refine (head_true _).mono ?_
  rintro e w1 ⟨rfl, hb1⟩
  obtain ⟨c1_0, f1_0, z1_0, za1_0, zb1_0, zc1_0⟩ := seen hb1 (w.heap.size) (by first | omega | (simp; done) | (simp; omega))
  obtain ⟨c1_1, f1_1, z1_1, za1_1, zb1_1, zc1_1⟩ := seen hb1 (w.heap.size + 1) (by first | omega | (simp; done) | (simp; omega))
  go_wp2_with (fail)
  refine (hear_c2 _ _ _ _ _ _ _ _ _ _ _ hv hf f0 f1 ).mono ?_
  rintro e w2 ⟨rfl, hb2⟩
  obtain ⟨c2_0, f2_0, z2_0, za2_0, zb2_0, zc2_0⟩ := seen hb2 (w.heap.size) (by first | omega | (simp; done) | (simp; omega))
  obtain ⟨c2_1, f2_1, z2_1, za2_1, zb2_1, zc2_1⟩ := seen hb2 (w.heap.size + 1) (by first | omega | (simp; done) | (simp; omega))
  go_wp2_with (fail)
  go_quiet (fail)
  go_wp2_with (fail)
  go_ret
  refine ⟨rfl, ?_⟩
  repeat (first | (with_reducible exact Below.refl _ _) | (with_reducible refine bs_drewN ?_ _) | (with_reducible refine bs_drew ?_) | (with_reducible refine bs_alloc ?_ _) | (with_reducible refine bs_set ?_ _ (by first | (simp; done) | (simp; omega))) | (with_reducible refine bs_step ?_ (by assumption)))
set_option maxHeartbeats 2000000 in
set_option maxRecDepth 100000 in
theorem law6_c0 (ph sp no si tr ch key f n me fr : Int) (w : World) (hv : validB ph sp no si tr = true) (hf : formedB 2 me sp no ch = true) (f0 : 0 ≤ fr) (f1 : fr ≤ 1000000000) (p1 : (ph != 1) = true) (p2 : (ph != 2) = true) : Calls Try.prog 6 #[.agg #[.int .i64 ph, .int .i64 sp, .int .i64 no, .int .i64 si, .int .i64 tr], .int .i64 me, .agg #[.int .i64 2, .int .i64 me, .int .i64 sp, .int .i64 no, .int .i64 ch, .int .i64 key, .int .i64 f, .int .i64 n], .int .i64 fr] w fun e w' => e = .returned (.bool true) ∧ Below w.heap.size w w' := by
  obtain ⟨⟨n0, n1⟩, _⟩ := formed_of hf
  go_enter Try.func6, Try.ntmps6
  go_wp2_with (fail)
  refine (head_true _).mono ?_
  rintro e w1 ⟨rfl, hb1⟩
  obtain ⟨c1_0, f1_0, z1_0, za1_0, zb1_0, zc1_0⟩ := seen hb1 (w.heap.size) (by first | omega | (simp; done) | (simp; omega))
  obtain ⟨c1_1, f1_1, z1_1, za1_1, zb1_1, zc1_1⟩ := seen hb1 (w.heap.size + 1) (by first | omega | (simp; done) | (simp; omega))
  go_wp2_with (fail)
  refine (hear_c0 _ _ _ _ _ _ _ _ _ _ _ _ hv hf f0 f1 p1 p2).mono ?_
  rintro e w2 ⟨rfl, hb2⟩
  obtain ⟨c2_0, f2_0, z2_0, za2_0, zb2_0, zc2_0⟩ := seen hb2 (w.heap.size) (by first | omega | (simp; done) | (simp; omega))
  obtain ⟨c2_1, f2_1, z2_1, za2_1, zb2_1, zc2_1⟩ := seen hb2 (w.heap.size + 1) (by first | omega | (simp; done) | (simp; omega))
  go_wp2_with (fail)
  go_ret
  refine ⟨rfl, ?_⟩
  repeat (first | (with_reducible exact Below.refl _ _) | (with_reducible refine bs_drewN ?_ _) | (with_reducible refine bs_drew ?_) | (with_reducible refine bs_alloc ?_ _) | (with_reducible refine bs_set ?_ _ (by first | (simp; done) | (simp; omega))) | (with_reducible refine bs_step ?_ (by assumption)))
set_option maxHeartbeats 2000000 in
set_option maxRecDepth 100000 in
theorem law6_wy (sp no si tr ch f n me fr : Int) (w : World) (hv : validB 2 sp no si tr = true) (hf : formedB 4 me sp no ch = true) (f0 : 0 ≤ fr) (f1 : fr ≤ 1000000000)  : Calls Try.prog 6 #[.agg #[.int .i64 2, .int .i64 sp, .int .i64 no, .int .i64 si, .int .i64 tr], .int .i64 me, .agg #[.int .i64 4, .int .i64 me, .int .i64 sp, .int .i64 no, .int .i64 ch, .int .i64 (1000000 + me), .int .i64 f, .int .i64 n], .int .i64 fr] w fun e w' => e = .returned (.bool true) ∧ Below w.heap.size w w' := by
  obtain ⟨⟨n0, n1⟩, _⟩ := formed_of hf
  go_enter Try.func6, Try.ntmps6
  go_wp2_with (fail)
  refine (head_true _).mono ?_
  rintro e w1 ⟨rfl, hb1⟩
  obtain ⟨c1_0, f1_0, z1_0, za1_0, zb1_0, zc1_0⟩ := seen hb1 (w.heap.size) (by first | omega | (simp; done) | (simp; omega))
  obtain ⟨c1_1, f1_1, z1_1, za1_1, zb1_1, zc1_1⟩ := seen hb1 (w.heap.size + 1) (by first | omega | (simp; done) | (simp; omega))
  go_wp2_with (fail)
  refine (hear_wy _ _ _ _ _ _ _ _ _ _ hv hf f0 f1 ).mono ?_
  rintro e w2 ⟨rfl, hb2⟩
  obtain ⟨c2_0, f2_0, z2_0, za2_0, zb2_0, zc2_0⟩ := seen hb2 (w.heap.size) (by first | omega | (simp; done) | (simp; omega))
  obtain ⟨c2_1, f2_1, z2_1, za2_1, zb2_1, zc2_1⟩ := seen hb2 (w.heap.size + 1) (by first | omega | (simp; done) | (simp; omega))
  go_wp2_with (fail)
  go_quiet (fail)
  go_wp2_with (fail)
  go_ret
  refine ⟨rfl, ?_⟩
  repeat (first | (with_reducible exact Below.refl _ _) | (with_reducible refine bs_drewN ?_ _) | (with_reducible refine bs_drew ?_) | (with_reducible refine bs_alloc ?_ _) | (with_reducible refine bs_set ?_ _ (by first | (simp; done) | (simp; omega))) | (with_reducible refine bs_step ?_ (by assumption)))
set_option maxHeartbeats 2000000 in
set_option maxRecDepth 100000 in
theorem law6_wn (sp no si tr ch key f n me fr : Int) (w : World) (hv : validB 2 sp no si tr = true) (hf : formedB 4 me sp no ch = true) (f0 : 0 ≤ fr) (f1 : fr ≤ 1000000000) (p1 : (key == 1000000 + me) = false) : Calls Try.prog 6 #[.agg #[.int .i64 2, .int .i64 sp, .int .i64 no, .int .i64 si, .int .i64 tr], .int .i64 me, .agg #[.int .i64 4, .int .i64 me, .int .i64 sp, .int .i64 no, .int .i64 ch, .int .i64 key, .int .i64 f, .int .i64 n], .int .i64 fr] w fun e w' => e = .returned (.bool true) ∧ Below w.heap.size w w' := by
  obtain ⟨⟨n0, n1⟩, _⟩ := formed_of hf
  have p2 : (key != 1000000 + me) = true := by simpa using p1
  go_enter Try.func6, Try.ntmps6
  go_wp2_with (fail)
  refine (head_true _).mono ?_
  rintro e w1 ⟨rfl, hb1⟩
  obtain ⟨c1_0, f1_0, z1_0, za1_0, zb1_0, zc1_0⟩ := seen hb1 (w.heap.size) (by first | omega | (simp; done) | (simp; omega))
  obtain ⟨c1_1, f1_1, z1_1, za1_1, zb1_1, zc1_1⟩ := seen hb1 (w.heap.size + 1) (by first | omega | (simp; done) | (simp; omega))
  go_wp2_with (fail)
  refine (hear_wn _ _ _ _ _ _ _ _ _ _ _ hv hf f0 f1 p1).mono ?_
  rintro e w2 ⟨rfl, hb2⟩
  obtain ⟨c2_0, f2_0, z2_0, za2_0, zb2_0, zc2_0⟩ := seen hb2 (w.heap.size) (by first | omega | (simp; done) | (simp; omega))
  obtain ⟨c2_1, f2_1, z2_1, za2_1, zb2_1, zc2_1⟩ := seen hb2 (w.heap.size + 1) (by first | omega | (simp; done) | (simp; omega))
  go_wp2_with (fail)
  go_ret
  refine ⟨rfl, ?_⟩
  repeat (first | (with_reducible exact Below.refl _ _) | (with_reducible refine bs_drewN ?_ _) | (with_reducible refine bs_drew ?_) | (with_reducible refine bs_alloc ?_ _) | (with_reducible refine bs_set ?_ _ (by first | (simp; done) | (simp; omega))) | (with_reducible refine bs_step ?_ (by assumption)))
set_option maxHeartbeats 2000000 in
set_option maxRecDepth 100000 in
theorem law6_w0 (ph sp no si tr ch key f n me fr : Int) (w : World) (hv : validB ph sp no si tr = true) (hf : formedB 4 me sp no ch = true) (f0 : 0 ≤ fr) (f1 : fr ≤ 1000000000) (p1 : (ph == 2) = false) (p2 : (key != 1000000 + me) = true) : Calls Try.prog 6 #[.agg #[.int .i64 ph, .int .i64 sp, .int .i64 no, .int .i64 si, .int .i64 tr], .int .i64 me, .agg #[.int .i64 4, .int .i64 me, .int .i64 sp, .int .i64 no, .int .i64 ch, .int .i64 key, .int .i64 f, .int .i64 n], .int .i64 fr] w fun e w' => e = .returned (.bool true) ∧ Below w.heap.size w w' := by
  obtain ⟨⟨n0, n1⟩, _⟩ := formed_of hf
  go_enter Try.func6, Try.ntmps6
  go_wp2_with (fail)
  refine (head_true _).mono ?_
  rintro e w1 ⟨rfl, hb1⟩
  obtain ⟨c1_0, f1_0, z1_0, za1_0, zb1_0, zc1_0⟩ := seen hb1 (w.heap.size) (by first | omega | (simp; done) | (simp; omega))
  obtain ⟨c1_1, f1_1, z1_1, za1_1, zb1_1, zc1_1⟩ := seen hb1 (w.heap.size + 1) (by first | omega | (simp; done) | (simp; omega))
  go_wp2_with (fail)
  refine (hear_w0 _ _ _ _ _ _ _ _ _ _ _ _ hv hf f0 f1 p1).mono ?_
  rintro e w2 ⟨rfl, hb2⟩
  obtain ⟨c2_0, f2_0, z2_0, za2_0, zb2_0, zc2_0⟩ := seen hb2 (w.heap.size) (by first | omega | (simp; done) | (simp; omega))
  obtain ⟨c2_1, f2_1, z2_1, za2_1, zb2_1, zc2_1⟩ := seen hb2 (w.heap.size + 1) (by first | omega | (simp; done) | (simp; omega))
  go_wp2_with (fail)
  go_ret
  refine ⟨rfl, ?_⟩
  repeat (first | (with_reducible exact Below.refl _ _) | (with_reducible refine bs_drewN ?_ _) | (with_reducible refine bs_drew ?_) | (with_reducible refine bs_alloc ?_ _) | (with_reducible refine bs_set ?_ _ (by first | (simp; done) | (simp; omega))) | (with_reducible refine bs_step ?_ (by assumption)))
set_option maxHeartbeats 2000000 in
set_option maxRecDepth 100000 in
theorem law6_w1 (ph sp no si tr ch f n me fr : Int) (w : World) (hv : validB ph sp no si tr = true) (hf : formedB 4 me sp no ch = true) (f0 : 0 ≤ fr) (f1 : fr ≤ 1000000000) (p1 : (ph == 2) = false) : Calls Try.prog 6 #[.agg #[.int .i64 ph, .int .i64 sp, .int .i64 no, .int .i64 si, .int .i64 tr], .int .i64 me, .agg #[.int .i64 4, .int .i64 me, .int .i64 sp, .int .i64 no, .int .i64 ch, .int .i64 (1000000 + me), .int .i64 f, .int .i64 n], .int .i64 fr] w fun e w' => e = .returned (.bool true) ∧ Below w.heap.size w w' := by
  obtain ⟨⟨n0, n1⟩, _⟩ := formed_of hf
  go_enter Try.func6, Try.ntmps6
  go_wp2_with (fail)
  refine (head_true _).mono ?_
  rintro e w1 ⟨rfl, hb1⟩
  obtain ⟨c1_0, f1_0, z1_0, za1_0, zb1_0, zc1_0⟩ := seen hb1 (w.heap.size) (by first | omega | (simp; done) | (simp; omega))
  obtain ⟨c1_1, f1_1, z1_1, za1_1, zb1_1, zc1_1⟩ := seen hb1 (w.heap.size + 1) (by first | omega | (simp; done) | (simp; omega))
  go_wp2_with (fail)
  refine (hear_w0 _ _ _ _ _ _ _ _ _ _ _ _ hv hf f0 f1 p1).mono ?_
  rintro e w2 ⟨rfl, hb2⟩
  obtain ⟨c2_0, f2_0, z2_0, za2_0, zb2_0, zc2_0⟩ := seen hb2 (w.heap.size) (by first | omega | (simp; done) | (simp; omega))
  obtain ⟨c2_1, f2_1, z2_1, za2_1, zb2_1, zc2_1⟩ := seen hb2 (w.heap.size + 1) (by first | omega | (simp; done) | (simp; omega))
  go_wp2_with (fail)
  go_ret
  refine ⟨rfl, ?_⟩
  repeat (first | (with_reducible exact Below.refl _ _) | (with_reducible refine bs_drewN ?_ _) | (with_reducible refine bs_drew ?_) | (with_reducible refine bs_alloc ?_ _) | (with_reducible refine bs_set ?_ _ (by first | (simp; done) | (simp; omega))) | (with_reducible refine bs_step ?_ (by assumption)))
set_option maxHeartbeats 2000000 in
set_option maxRecDepth 100000 in
theorem law6_d (ph sp no si tr k ch key f n me fr : Int) (w : World) (hv : validB ph sp no si tr = true) (hf : formedB k me sp no ch = true) (f0 : 0 ≤ fr) (f1 : fr ≤ 1000000000) (p1 : (k == 2) = false) (p2 : (k == 4) = false) : Calls Try.prog 6 #[.agg #[.int .i64 ph, .int .i64 sp, .int .i64 no, .int .i64 si, .int .i64 tr], .int .i64 me, .agg #[.int .i64 k, .int .i64 me, .int .i64 sp, .int .i64 no, .int .i64 ch, .int .i64 key, .int .i64 f, .int .i64 n], .int .i64 fr] w fun e w' => e = .returned (.bool true) ∧ Below w.heap.size w w' := by
  obtain ⟨⟨n0, n1⟩, _⟩ := formed_of hf
  go_enter Try.func6, Try.ntmps6
  go_wp2_with (fail)
  refine (head_true _).mono ?_
  rintro e w1 ⟨rfl, hb1⟩
  obtain ⟨c1_0, f1_0, z1_0, za1_0, zb1_0, zc1_0⟩ := seen hb1 (w.heap.size) (by first | omega | (simp; done) | (simp; omega))
  obtain ⟨c1_1, f1_1, z1_1, za1_1, zb1_1, zc1_1⟩ := seen hb1 (w.heap.size + 1) (by first | omega | (simp; done) | (simp; omega))
  go_wp2_with (fail)
  refine (hear_d _ _ _ _ _ _ _ _ _ _ _ _ _ hv hf f0 f1 p1 p2).mono ?_
  rintro e w2 ⟨rfl, hb2⟩
  obtain ⟨c2_0, f2_0, z2_0, za2_0, zb2_0, zc2_0⟩ := seen hb2 (w.heap.size) (by first | omega | (simp; done) | (simp; omega))
  obtain ⟨c2_1, f2_1, z2_1, za2_1, zb2_1, zc2_1⟩ := seen hb2 (w.heap.size + 1) (by first | omega | (simp; done) | (simp; omega))
  go_wp2_with (fail)
  go_ret
  refine ⟨rfl, ?_⟩
  repeat (first | (with_reducible exact Below.refl _ _) | (with_reducible refine bs_drewN ?_ _) | (with_reducible refine bs_drew ?_) | (with_reducible refine bs_alloc ?_ _) | (with_reducible refine bs_set ?_ _ (by first | (simp; done) | (simp; omega))) | (with_reducible refine bs_step ?_ (by assumption)))
theorem law6_all (ph sp no si tr k st ws wn ch key f n me fr : Int) (w : World) : Calls Try.prog 6 #[.agg #[.int .i64 ph, .int .i64 sp, .int .i64 no, .int .i64 si, .int .i64 tr], .int .i64 me, .agg #[.int .i64 k, .int .i64 st, .int .i64 ws, .int .i64 wn, .int .i64 ch, .int .i64 key, .int .i64 f, .int .i64 n], .int .i64 fr] w fun e w' => e = .returned (.bool true) ∧ Below w.heap.size w w' := by
  by_cases h : hearP ph sp no si tr k st ws wn ch fr me
  rotate_left
  · by_cases g0 : st = me
    rotate_left
    · exact law6_r0 _ _ _ _ _ _ _ _ _ _ _ _ _ _ _ w h g0
    by_cases g1 : ws = sp
    rotate_left
    · exact law6_r1 _ _ _ _ _ _ _ _ _ _ _ _ _ _ _ w h g0 g1
    by_cases g2 : wn = no
    rotate_left
    · exact law6_r2 _ _ _ _ _ _ _ _ _ _ _ _ _ _ _ w h g0 g1 g2
    by_cases g3 : k = 4
    rotate_left
    · exact law6_r3 _ _ _ _ _ _ _ _ _ _ _ _ _ _ _ w h g0 g1 g2 g3
    by_cases g4 : key = wrap64 (1000000 + me)
    · exact law6_r5 _ _ _ _ _ _ _ _ _ _ _ _ _ _ _ w h g0 g1 g2 g3 g4
    · exact law6_r4 _ _ _ _ _ _ _ _ _ _ _ _ _ _ _ w h g0 g1 g2 g3 g4
  obtain ⟨hv, hf, f0, f1, rfl, rfl, rfl⟩ := h
  by_cases k2 : k = 2
  · subst k2
    by_cases p1 : ph = 1
    · subst p1; exact law6_c1 _ _ _ _ _ _ _ _ _ _ w hv hf f0 f1
    by_cases p2 : ph = 2
    · subst p2; exact law6_c2 _ _ _ _ _ _ _ _ _ _ w hv hf f0 f1
    · exact law6_c0 _ _ _ _ _ _ _ _ _ _ _ w hv hf f0 f1 (by rw [bne_iff_ne]; exact p1) (by rw [bne_iff_ne]; exact p2)
  by_cases k4 : k = 4
  · subst k4
    by_cases p2 : ph = 2
    · subst p2
      by_cases hk : key = 1000000 + st
      · subst hk; exact law6_wy _ _ _ _ _ _ _ _ _ w hv hf f0 f1
      · exact law6_wn _ _ _ _ _ _ _ _ _ _ w hv hf f0 f1 (beq_eq_false_iff_ne.2 hk)
    · by_cases hk : key = 1000000 + st
      · subst hk; exact law6_w1 _ _ _ _ _ _ _ _ _ _ w hv hf f0 f1 (beq_eq_false_iff_ne.2 p2)
      · exact law6_w0 _ _ _ _ _ _ _ _ _ _ _ w hv hf f0 f1 (beq_eq_false_iff_ne.2 p2) (by rw [bne_iff_ne]; exact hk)
  · exact law6_d _ _ _ _ _ _ _ _ _ _ _ _ w hv hf f0 f1 (beq_eq_false_iff_ne.2 k2) (beq_eq_false_iff_ne.2 k4)
end Go.Proofs.Yteiiglefbbhinaa
