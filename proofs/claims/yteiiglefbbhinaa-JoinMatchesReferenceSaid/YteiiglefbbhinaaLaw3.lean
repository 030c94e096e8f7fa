/-
  JoinMatchesReference: the walks of the law on package join, for every input: join.Ask, Hear, Judge and Late return what the reference returns, for any state, word, ring and numbers.
-/
import Derived.Test.YteiiglefbbhinaaJoinN
import Derived.WalkLawsBesides
import Derived.BigQuiet
import Derived.Deep.RegionHeld3
import Derived.Deep.DeepCutAuto
import Derived.LoopTactic
import Derived.Lib.Hide
namespace Go.Proofs.Yteiiglefbbhinaa
open Go.RowKit
set_option linter.unusedVariables false
set_option linter.unusedSimpArgs false
set_option maxHeartbeats 2000000 in
set_option maxRecDepth 100000 in
theorem law1_all (ph sp no si tr k st ws wn ch key f n x y me bt spo fr : Int) (w : World) : Calls Try.prog 3 #[.agg #[.int .i64 ph, .int .i64 sp, .int .i64 no, .int .i64 si, .int .i64 tr], .agg #[.int .i64 k, .int .i64 st, .int .i64 ws, .int .i64 wn, .int .i64 ch, .int .i64 key, .int .i64 f, .int .i64 n], .agg #[.int .i64 x, .int .i64 y], .int .i64 me, .int .i64 bt, .int .i64 spo, .int .i64 fr] w fun e w' => e = .returned (.bool true) ∧ Below w.heap.size w w' := by
  obtain ⟨x0, x1, x2, x3, x4, y0, y1, y2, y3, y4, y5, y6, y7, xe, A1, A2⟩ := ask_same ph sp no si tr me bt spo fr
  obtain ⟨c0, c1, c2, c3, c4, p0, p1, p2, p3, p4, p5, p6, p7, ok, H1, H2⟩ := hear_same ph sp no si tr k st ws wn ch key f n fr me
  obtain ⟨s0, s1, s2, s3, s4, s5, s6, s7, se, J1, J2⟩ := judge_same k st ws wn ch key f n x y
  obtain ⟨l0, l1, l2, l3, l4, L1, L2⟩ := late_same ph sp no si tr fr
  have A1h := Lib.hid A1
  clear A1
  have A2h := Lib.hid A2
  clear A2
  have H1h := Lib.hid H1
  clear H1
  have H2h := Lib.hid H2
  clear H2
  have J1h := Lib.hid J1
  clear J1
  have J2h := Lib.hid J2
  clear J2
  have L1h := Lib.hid L1
  clear L1
  have L2h := Lib.hid L2
  clear L2
  go_enter Try.func3, Try.ntmps3
  go_wp2_with (fail)
  refine (head_true _).mono ?_
  rintro e w1 ⟨rfl, hb1⟩
  obtain ⟨c1_0, f1_0, z1_0, za1_0, zb1_0, zc1_0⟩ := seen hb1 (w.heap.size) (by first | omega | (simp; done) | (simp; omega))
  obtain ⟨c1_1, f1_1, z1_1, za1_1, zb1_1, zc1_1⟩ := seen hb1 (w.heap.size + 1) (by first | omega | (simp; done) | (simp; omega))
  obtain ⟨c1_2, f1_2, z1_2, za1_2, zb1_2, zc1_2⟩ := seen hb1 (w.heap.size + 1 + 1) (by first | omega | (simp; done) | (simp; omega))
  go_wp2_with (fail)
  refine (A1h.out _).mono ?_
  rintro e w2 ⟨rfl, hb2⟩
  obtain ⟨c2_0, f2_0, z2_0, za2_0, zb2_0, zc2_0⟩ := seen hb2 (w.heap.size) (by first | omega | (simp; done) | (simp; omega))
  obtain ⟨c2_1, f2_1, z2_1, za2_1, zb2_1, zc2_1⟩ := seen hb2 (w.heap.size + 1) (by first | omega | (simp; done) | (simp; omega))
  obtain ⟨c2_2, f2_2, z2_2, za2_2, zb2_2, zc2_2⟩ := seen hb2 (w.heap.size + 1 + 1) (by first | omega | (simp; done) | (simp; omega))
  go_wp2_with (fail)
  refine (A2h.out _).mono ?_
  rintro e w3 ⟨rfl, hb3⟩
  obtain ⟨c3_0, f3_0, z3_0, za3_0, zb3_0, zc3_0⟩ := seen hb3 (w.heap.size) (by first | omega | (simp; done) | (simp; omega))
  obtain ⟨c3_1, f3_1, z3_1, za3_1, zb3_1, zc3_1⟩ := seen hb3 (w.heap.size + 1) (by first | omega | (simp; done) | (simp; omega))
  obtain ⟨c3_2, f3_2, z3_2, za3_2, zb3_2, zc3_2⟩ := seen hb3 (w.heap.size + 1 + 1) (by first | omega | (simp; done) | (simp; omega))
  obtain ⟨c3_3, f3_3, z3_3, za3_3, zb3_3, zc3_3⟩ := seen hb3 (w2.heap.size) (by first | omega | (simp; done) | (simp; omega))
  obtain ⟨c3_4, f3_4, z3_4, za3_4, zb3_4, zc3_4⟩ := seen hb3 (w2.heap.size + 1) (by first | omega | (simp; done) | (simp; omega))
  go_wp2_with (fail)
  refine (H1h.out _).mono ?_
  rintro e w4 ⟨rfl, hb4⟩
  obtain ⟨c4_0, f4_0, z4_0, za4_0, zb4_0, zc4_0⟩ := seen hb4 (w.heap.size) (by first | omega | (simp; done) | (simp; omega))
  obtain ⟨c4_1, f4_1, z4_1, za4_1, zb4_1, zc4_1⟩ := seen hb4 (w.heap.size + 1) (by first | omega | (simp; done) | (simp; omega))
  obtain ⟨c4_2, f4_2, z4_2, za4_2, zb4_2, zc4_2⟩ := seen hb4 (w.heap.size + 1 + 1) (by first | omega | (simp; done) | (simp; omega))
  obtain ⟨c4_3, f4_3, z4_3, za4_3, zb4_3, zc4_3⟩ := seen hb4 (w2.heap.size) (by first | omega | (simp; done) | (simp; omega))
  obtain ⟨c4_4, f4_4, z4_4, za4_4, zb4_4, zc4_4⟩ := seen hb4 (w2.heap.size + 1) (by first | omega | (simp; done) | (simp; omega))
  obtain ⟨c4_5, f4_5, z4_5, za4_5, zb4_5, zc4_5⟩ := seen hb4 (w3.heap.size) (by first | omega | (simp; done) | (simp; omega))
  obtain ⟨c4_6, f4_6, z4_6, za4_6, zb4_6, zc4_6⟩ := seen hb4 (w3.heap.size + 1) (by first | omega | (simp; done) | (simp; omega))
  go_wp2_with (fail)
  refine (H2h.out _).mono ?_
  rintro e w5 ⟨rfl, hb5⟩
  obtain ⟨c5_0, f5_0, z5_0, za5_0, zb5_0, zc5_0⟩ := seen hb5 (w.heap.size) (by first | omega | (simp; done) | (simp; omega))
  obtain ⟨c5_1, f5_1, z5_1, za5_1, zb5_1, zc5_1⟩ := seen hb5 (w.heap.size + 1) (by first | omega | (simp; done) | (simp; omega))
  obtain ⟨c5_2, f5_2, z5_2, za5_2, zb5_2, zc5_2⟩ := seen hb5 (w.heap.size + 1 + 1) (by first | omega | (simp; done) | (simp; omega))
  obtain ⟨c5_3, f5_3, z5_3, za5_3, zb5_3, zc5_3⟩ := seen hb5 (w2.heap.size) (by first | omega | (simp; done) | (simp; omega))
  obtain ⟨c5_4, f5_4, z5_4, za5_4, zb5_4, zc5_4⟩ := seen hb5 (w2.heap.size + 1) (by first | omega | (simp; done) | (simp; omega))
  obtain ⟨c5_5, f5_5, z5_5, za5_5, zb5_5, zc5_5⟩ := seen hb5 (w3.heap.size) (by first | omega | (simp; done) | (simp; omega))
  obtain ⟨c5_6, f5_6, z5_6, za5_6, zb5_6, zc5_6⟩ := seen hb5 (w3.heap.size + 1) (by first | omega | (simp; done) | (simp; omega))
  obtain ⟨c5_7, f5_7, z5_7, za5_7, zb5_7, zc5_7⟩ := seen hb5 (w4.heap.size) (by first | omega | (simp; done) | (simp; omega))
  obtain ⟨c5_8, f5_8, z5_8, za5_8, zb5_8, zc5_8⟩ := seen hb5 (w4.heap.size + 1) (by first | omega | (simp; done) | (simp; omega))
  go_wp2_with (fail)
  refine (J1h.out _).mono ?_
  rintro e w6 ⟨rfl, hb6⟩
  obtain ⟨c6_0, f6_0, z6_0, za6_0, zb6_0, zc6_0⟩ := seen hb6 (w.heap.size) (by first | omega | (simp; done) | (simp; omega))
  obtain ⟨c6_1, f6_1, z6_1, za6_1, zb6_1, zc6_1⟩ := seen hb6 (w.heap.size + 1) (by first | omega | (simp; done) | (simp; omega))
  obtain ⟨c6_2, f6_2, z6_2, za6_2, zb6_2, zc6_2⟩ := seen hb6 (w.heap.size + 1 + 1) (by first | omega | (simp; done) | (simp; omega))
  obtain ⟨c6_3, f6_3, z6_3, za6_3, zb6_3, zc6_3⟩ := seen hb6 (w2.heap.size) (by first | omega | (simp; done) | (simp; omega))
  obtain ⟨c6_4, f6_4, z6_4, za6_4, zb6_4, zc6_4⟩ := seen hb6 (w2.heap.size + 1) (by first | omega | (simp; done) | (simp; omega))
  obtain ⟨c6_5, f6_5, z6_5, za6_5, zb6_5, zc6_5⟩ := seen hb6 (w3.heap.size) (by first | omega | (simp; done) | (simp; omega))
  obtain ⟨c6_6, f6_6, z6_6, za6_6, zb6_6, zc6_6⟩ := seen hb6 (w3.heap.size + 1) (by first | omega | (simp; done) | (simp; omega))
  obtain ⟨c6_7, f6_7, z6_7, za6_7, zb6_7, zc6_7⟩ := seen hb6 (w4.heap.size) (by first | omega | (simp; done) | (simp; omega))
  obtain ⟨c6_8, f6_8, z6_8, za6_8, zb6_8, zc6_8⟩ := seen hb6 (w4.heap.size + 1) (by first | omega | (simp; done) | (simp; omega))
  obtain ⟨c6_9, f6_9, z6_9, za6_9, zb6_9, zc6_9⟩ := seen hb6 (w5.heap.size) (by first | omega | (simp; done) | (simp; omega))
  obtain ⟨c6_10, f6_10, z6_10, za6_10, zb6_10, zc6_10⟩ := seen hb6 (w5.heap.size + 1) (by first | omega | (simp; done) | (simp; omega))
  go_wp2_with (fail)
  refine (J2h.out _).mono ?_
  rintro e w7 ⟨rfl, hb7⟩
  obtain ⟨c7_0, f7_0, z7_0, za7_0, zb7_0, zc7_0⟩ := seen hb7 (w.heap.size) (by first | omega | (simp; done) | (simp; omega))
  obtain ⟨c7_1, f7_1, z7_1, za7_1, zb7_1, zc7_1⟩ := seen hb7 (w.heap.size + 1) (by first | omega | (simp; done) | (simp; omega))
  obtain ⟨c7_2, f7_2, z7_2, za7_2, zb7_2, zc7_2⟩ := seen hb7 (w.heap.size + 1 + 1) (by first | omega | (simp; done) | (simp; omega))
  obtain ⟨c7_3, f7_3, z7_3, za7_3, zb7_3, zc7_3⟩ := seen hb7 (w2.heap.size) (by first | omega | (simp; done) | (simp; omega))
  obtain ⟨c7_4, f7_4, z7_4, za7_4, zb7_4, zc7_4⟩ := seen hb7 (w2.heap.size + 1) (by first | omega | (simp; done) | (simp; omega))
  obtain ⟨c7_5, f7_5, z7_5, za7_5, zb7_5, zc7_5⟩ := seen hb7 (w3.heap.size) (by first | omega | (simp; done) | (simp; omega))
  obtain ⟨c7_6, f7_6, z7_6, za7_6, zb7_6, zc7_6⟩ := seen hb7 (w3.heap.size + 1) (by first | omega | (simp; done) | (simp; omega))
  obtain ⟨c7_7, f7_7, z7_7, za7_7, zb7_7, zc7_7⟩ := seen hb7 (w4.heap.size) (by first | omega | (simp; done) | (simp; omega))
  obtain ⟨c7_8, f7_8, z7_8, za7_8, zb7_8, zc7_8⟩ := seen hb7 (w4.heap.size + 1) (by first | omega | (simp; done) | (simp; omega))
  obtain ⟨c7_9, f7_9, z7_9, za7_9, zb7_9, zc7_9⟩ := seen hb7 (w5.heap.size) (by first | omega | (simp; done) | (simp; omega))
  obtain ⟨c7_10, f7_10, z7_10, za7_10, zb7_10, zc7_10⟩ := seen hb7 (w5.heap.size + 1) (by first | omega | (simp; done) | (simp; omega))
  obtain ⟨c7_11, f7_11, z7_11, za7_11, zb7_11, zc7_11⟩ := seen hb7 (w6.heap.size) (by first | omega | (simp; done) | (simp; omega))
  go_wp2_with (fail)
  (try simp only [List.append])
  go_region_held3 (fun w' => w'.cell? ⟨w2.heap.size, 0, none⟩ = some (.int .i64 x0) ∧ w'.cell? ⟨w2.heap.size, 1, none⟩ = some (.int .i64 x1) ∧ w'.cell? ⟨w2.heap.size, 2, none⟩ = some (.int .i64 x2) ∧ w'.cell? ⟨w2.heap.size, 3, none⟩ = some (.int .i64 x3) ∧ w'.cell? ⟨w2.heap.size, 4, none⟩ = some (.int .i64 x4) ∧ w'.cell? ⟨w2.heap.size + 1, 0, none⟩ = some (.int .i64 y0) ∧ w'.cell? ⟨w2.heap.size + 1, 1, none⟩ = some (.int .i64 y1) ∧ w'.cell? ⟨w2.heap.size + 1, 2, none⟩ = some (.int .i64 y2) ∧ w'.cell? ⟨w2.heap.size + 1, 3, none⟩ = some (.int .i64 y3) ∧ w'.cell? ⟨w2.heap.size + 1, 4, none⟩ = some (.int .i64 y4) ∧ w'.cell? ⟨w2.heap.size + 1, 5, none⟩ = some (.int .i64 y5) ∧ w'.cell? ⟨w2.heap.size + 1, 6, none⟩ = some (.int .i64 y6) ∧ w'.cell? ⟨w2.heap.size + 1, 7, none⟩ = some (.int .i64 y7) ∧ w'.cell? ⟨w3.heap.size, 0, none⟩ = some (.int .i64 x0) ∧ w'.cell? ⟨w3.heap.size, 1, none⟩ = some (.int .i64 x1) ∧ w'.cell? ⟨w3.heap.size, 2, none⟩ = some (.int .i64 x2) ∧ w'.cell? ⟨w3.heap.size, 3, none⟩ = some (.int .i64 x3) ∧ w'.cell? ⟨w3.heap.size, 4, none⟩ = some (.int .i64 x4) ∧ w'.cell? ⟨w3.heap.size + 1, 0, none⟩ = some (.int .i64 y0) ∧ w'.cell? ⟨w3.heap.size + 1, 1, none⟩ = some (.int .i64 y1) ∧ w'.cell? ⟨w3.heap.size + 1, 2, none⟩ = some (.int .i64 y2) ∧ w'.cell? ⟨w3.heap.size + 1, 3, none⟩ = some (.int .i64 y3) ∧ w'.cell? ⟨w3.heap.size + 1, 4, none⟩ = some (.int .i64 y4) ∧ w'.cell? ⟨w3.heap.size + 1, 5, none⟩ = some (.int .i64 y5) ∧ w'.cell? ⟨w3.heap.size + 1, 6, none⟩ = some (.int .i64 y6) ∧ w'.cell? ⟨w3.heap.size + 1, 7, none⟩ = some (.int .i64 y7) ∧ w'.cell? ⟨w4.heap.size, 0, none⟩ = some (.int .i64 c0) ∧ w'.cell? ⟨w4.heap.size, 1, none⟩ = some (.int .i64 c1) ∧ w'.cell? ⟨w4.heap.size, 2, none⟩ = some (.int .i64 c2) ∧ w'.cell? ⟨w4.heap.size, 3, none⟩ = some (.int .i64 c3) ∧ w'.cell? ⟨w4.heap.size, 4, none⟩ = some (.int .i64 c4) ∧ w'.cell? ⟨w4.heap.size + 1, 0, none⟩ = some (.int .i64 p0) ∧ w'.cell? ⟨w4.heap.size + 1, 1, none⟩ = some (.int .i64 p1) ∧ w'.cell? ⟨w4.heap.size + 1, 2, none⟩ = some (.int .i64 p2) ∧ w'.cell? ⟨w4.heap.size + 1, 3, none⟩ = some (.int .i64 p3) ∧ w'.cell? ⟨w4.heap.size + 1, 4, none⟩ = some (.int .i64 p4) ∧ w'.cell? ⟨w4.heap.size + 1, 5, none⟩ = some (.int .i64 p5) ∧ w'.cell? ⟨w4.heap.size + 1, 6, none⟩ = some (.int .i64 p6) ∧ w'.cell? ⟨w4.heap.size + 1, 7, none⟩ = some (.int .i64 p7) ∧ w'.cell? ⟨w5.heap.size, 0, none⟩ = some (.int .i64 c0) ∧ w'.cell? ⟨w5.heap.size, 1, none⟩ = some (.int .i64 c1) ∧ w'.cell? ⟨w5.heap.size, 2, none⟩ = some (.int .i64 c2) ∧ w'.cell? ⟨w5.heap.size, 3, none⟩ = some (.int .i64 c3) ∧ w'.cell? ⟨w5.heap.size, 4, none⟩ = some (.int .i64 c4) ∧ w'.cell? ⟨w5.heap.size + 1, 0, none⟩ = some (.int .i64 p0) ∧ w'.cell? ⟨w5.heap.size + 1, 1, none⟩ = some (.int .i64 p1) ∧ w'.cell? ⟨w5.heap.size + 1, 2, none⟩ = some (.int .i64 p2) ∧ w'.cell? ⟨w5.heap.size + 1, 3, none⟩ = some (.int .i64 p3) ∧ w'.cell? ⟨w5.heap.size + 1, 4, none⟩ = some (.int .i64 p4) ∧ w'.cell? ⟨w5.heap.size + 1, 5, none⟩ = some (.int .i64 p5) ∧ w'.cell? ⟨w5.heap.size + 1, 6, none⟩ = some (.int .i64 p6) ∧ w'.cell? ⟨w5.heap.size + 1, 7, none⟩ = some (.int .i64 p7) ∧ w'.cell? ⟨w6.heap.size, 0, none⟩ = some (.int .i64 s0) ∧ w'.cell? ⟨w6.heap.size, 1, none⟩ = some (.int .i64 s1) ∧ w'.cell? ⟨w6.heap.size, 2, none⟩ = some (.int .i64 s2) ∧ w'.cell? ⟨w6.heap.size, 3, none⟩ = some (.int .i64 s3) ∧ w'.cell? ⟨w6.heap.size, 4, none⟩ = some (.int .i64 s4) ∧ w'.cell? ⟨w6.heap.size, 5, none⟩ = some (.int .i64 s5) ∧ w'.cell? ⟨w6.heap.size, 6, none⟩ = some (.int .i64 s6) ∧ w'.cell? ⟨w6.heap.size, 7, none⟩ = some (.int .i64 s7) ∧ w'.cell? ⟨w7.heap.size, 0, none⟩ = some (.int .i64 s0) ∧ w'.cell? ⟨w7.heap.size, 1, none⟩ = some (.int .i64 s1) ∧ w'.cell? ⟨w7.heap.size, 2, none⟩ = some (.int .i64 s2) ∧ w'.cell? ⟨w7.heap.size, 3, none⟩ = some (.int .i64 s3) ∧ w'.cell? ⟨w7.heap.size, 4, none⟩ = some (.int .i64 s4) ∧ w'.cell? ⟨w7.heap.size, 5, none⟩ = some (.int .i64 s5) ∧ w'.cell? ⟨w7.heap.size, 6, none⟩ = some (.int .i64 s6) ∧ w'.cell? ⟨w7.heap.size, 7, none⟩ = some (.int .i64 s7) ∧ w'.cell? ⟨w.heap.size, 0, none⟩ = some (.int .i64 ph) ∧ w'.cell? ⟨w.heap.size, 1, none⟩ = some (.int .i64 sp) ∧ w'.cell? ⟨w.heap.size, 2, none⟩ = some (.int .i64 no) ∧ w'.cell? ⟨w.heap.size, 3, none⟩ = some (.int .i64 si) ∧ w'.cell? ⟨w.heap.size, 4, none⟩ = some (.int .i64 tr)) (first | (simp [go_sem, *]; done) | (refine ⟨cell_later hb ?_, cell_later hb ?_, cell_later hb ?_, cell_later hb ?_, cell_later hb ?_, cell_later hb ?_, cell_later hb ?_, cell_later hb ?_, cell_later hb ?_, cell_later hb ?_, cell_later hb ?_, cell_later hb ?_, cell_later hb ?_, cell_later hb ?_, cell_later hb ?_, cell_later hb ?_, cell_later hb ?_, cell_later hb ?_, cell_later hb ?_, cell_later hb ?_, cell_later hb ?_, cell_later hb ?_, cell_later hb ?_, cell_later hb ?_, cell_later hb ?_, cell_later hb ?_, cell_later hb ?_, cell_later hb ?_, cell_later hb ?_, cell_later hb ?_, cell_later hb ?_, cell_later hb ?_, cell_later hb ?_, cell_later hb ?_, cell_later hb ?_, cell_later hb ?_, cell_later hb ?_, cell_later hb ?_, cell_later hb ?_, cell_later hb ?_, cell_later hb ?_, cell_later hb ?_, cell_later hb ?_, cell_later hb ?_, cell_later hb ?_, cell_later hb ?_, cell_later hb ?_, cell_later hb ?_, cell_later hb ?_, cell_later hb ?_, cell_later hb ?_, cell_later hb ?_, cell_later hb ?_, cell_later hb ?_, cell_later hb ?_, cell_later hb ?_, cell_later hb ?_, cell_later hb ?_, cell_later hb ?_, cell_later hb ?_, cell_later hb ?_, cell_later hb ?_, cell_later hb ?_, cell_later hb ?_, cell_later hb ?_, cell_later hb ?_, cell_later hb ?_, cell_later hb ?_, cell_later hb ?_, cell_later hb ?_, cell_later hb ?_, cell_later hb ?_, cell_later hb ?_⟩ <;> (simp [go_sem, *]; done))) (first | (go_at_call 17; refine (L1h.out _).mono ?_; rintro e w' ⟨rfl, hb⟩) | (go_at_call 18; refine (L2h.out _).mono ?_; rintro e w' ⟨rfl, hb⟩))
  go_wp2_with (fail)
  go_ret
  refine ⟨rfl, ?_⟩
  repeat (first | (with_reducible exact Below.refl _ _) | (with_reducible refine bs_drewN ?_ _) | (with_reducible refine bs_drew ?_) | (with_reducible refine bs_alloc ?_ _) | (with_reducible refine bs_set ?_ _ (by first | (simp; done) | (simp; omega))) | (with_reducible refine bs_step ?_ (by assumption)))
end Go.Proofs.Yteiiglefbbhinaa
