/-
  The fixed examples of the laws on package join come out true.
-/
import Derived.Test.YteiiglefbbhinaaJoinL
import Derived.WalkLawsBesides
import Derived.BigQuiet
import Derived.Deep.RegionHeld3
import Derived.Deep.DeepCutAuto
import Derived.LoopTactic
import Derived.Lib.Hide
namespace Go.Proofs.Yteiiglefbbhinaa
open Go.RowKit
set_option linter.unusedVariables false
set_option linter.unusedSimpArgs false
set_option maxHeartbeats 2000000 in
set_option maxRecDepth 100000 in
theorem head_true (w : World) : Calls Try.prog 10 #[] w fun e w' => e = .returned (.bool true) ∧ Below w.heap.size w w' := by
  go_enter Try.func10, Try.ntmps10
  go_wp2_with (fail)
  refine (ask_o 0 (-1) 0 0 0 5 2 3 10 _ ⟨by decide, by decide, by decide, by omega, by omega, by omega, by omega, by omega⟩ rfl (by omega)).mono ?_
  rintro e w1 ⟨rfl, hb1⟩
  go_wp2_with (fail)
  have sz1 := hb1.size
  refine (ask_s 1 3 513 10 1 5 2 4 11 _ ⟨by decide, by decide, by decide, by omega, by omega, by omega, by omega, by omega⟩ (by omega)).mono ?_
  rintro e w2 ⟨rfl, hb2⟩
  obtain ⟨c2_0, f2_0, z2_0, za2_0, zb2_0, zc2_0⟩ := seen hb2 (w1.heap.size) (by first | omega | (simp; done) | (simp; omega))
  obtain ⟨c2_1, f2_1, z2_1, za2_1, zb2_1, zc2_1⟩ := seen hb2 (w1.heap.size + 1) (by first | omega | (simp; done) | (simp; omega))
  go_wp2_with (fail)
  refine (hear_c1 3 513 10 1 7 0 0 0 12 5 _ (by decide) (by decide) (by omega) (by omega)).mono ?_
  rintro e w3 ⟨rfl, hb3⟩
  obtain ⟨c3_0, f3_0, z3_0, za3_0, zb3_0, zc3_0⟩ := seen hb3 (w1.heap.size) (by first | omega | (simp; done) | (simp; omega))
  obtain ⟨c3_1, f3_1, z3_1, za3_1, zb3_1, zc3_1⟩ := seen hb3 (w1.heap.size + 1) (by first | omega | (simp; done) | (simp; omega))
  go_wp2_with (fail)
  refine (judge_o 3 5 3 513 7 1000005 0 0 4 6 _ (by decide) (by omega) (by omega) (by omega) rfl rfl).mono ?_
  rintro e w4 ⟨rfl, hb4⟩
  obtain ⟨c4_0, f4_0, z4_0, za4_0, zb4_0, zc4_0⟩ := seen hb4 (w1.heap.size) (by first | omega | (simp; done) | (simp; omega))
  obtain ⟨c4_1, f4_1, z4_1, za4_1, zb4_1, zc4_1⟩ := seen hb4 (w1.heap.size + 1) (by first | omega | (simp; done) | (simp; omega))
  obtain ⟨c4_2, f4_2, z4_2, za4_2, zb4_2, zc4_2⟩ := seen hb4 (w3.heap.size) (by first | omega | (simp; done) | (simp; omega))
  obtain ⟨c4_3, f4_3, z4_3, za4_3, zb4_3, zc4_3⟩ := seen hb4 (w3.heap.size + 1) (by first | omega | (simp; done) | (simp; omega))
  go_wp2_with (fail)
  refine (hear_wy 3 513 10 1 0 4 6 13 5 _ (by decide) (by decide) (by omega) (by omega)).mono ?_
  rintro e w5 ⟨rfl, hb5⟩
  obtain ⟨c5_0, f5_0, z5_0, za5_0, zb5_0, zc5_0⟩ := seen hb5 (w1.heap.size) (by first | omega | (simp; done) | (simp; omega))
  obtain ⟨c5_1, f5_1, z5_1, za5_1, zb5_1, zc5_1⟩ := seen hb5 (w1.heap.size + 1) (by first | omega | (simp; done) | (simp; omega))
  obtain ⟨c5_2, f5_2, z5_2, za5_2, zb5_2, zc5_2⟩ := seen hb5 (w3.heap.size) (by first | omega | (simp; done) | (simp; omega))
  obtain ⟨c5_3, f5_3, z5_3, za5_3, zb5_3, zc5_3⟩ := seen hb5 (w3.heap.size + 1) (by first | omega | (simp; done) | (simp; omega))
  obtain ⟨c5_4, f5_4, z5_4, za5_4, zb5_4, zc5_4⟩ := seen hb5 (w4.heap.size) (by first | omega | (simp; done) | (simp; omega))
  go_wp2_with (fail)
  refine (hear_w0 1 3 513 10 1 0 1000005 4 6 13 5 _ (by decide) (by decide) (by omega) (by omega) (by decide)).mono ?_
  rintro e w6 ⟨rfl, hb6⟩
  obtain ⟨c6_0, f6_0, z6_0, za6_0, zb6_0, zc6_0⟩ := seen hb6 (w1.heap.size) (by first | omega | (simp; done) | (simp; omega))
  obtain ⟨c6_1, f6_1, z6_1, za6_1, zb6_1, zc6_1⟩ := seen hb6 (w1.heap.size + 1) (by first | omega | (simp; done) | (simp; omega))
  obtain ⟨c6_2, f6_2, z6_2, za6_2, zb6_2, zc6_2⟩ := seen hb6 (w3.heap.size) (by first | omega | (simp; done) | (simp; omega))
  obtain ⟨c6_3, f6_3, z6_3, za6_3, zb6_3, zc6_3⟩ := seen hb6 (w3.heap.size + 1) (by first | omega | (simp; done) | (simp; omega))
  obtain ⟨c6_4, f6_4, z6_4, za6_4, zb6_4, zc6_4⟩ := seen hb6 (w4.heap.size) (by first | omega | (simp; done) | (simp; omega))
  obtain ⟨c6_5, f6_5, z6_5, za6_5, zb6_5, zc6_5⟩ := seen hb6 (w5.heap.size) (by first | omega | (simp; done) | (simp; omega))
  obtain ⟨c6_6, f6_6, z6_6, za6_6, zb6_6, zc6_6⟩ := seen hb6 (w5.heap.size + 1) (by first | omega | (simp; done) | (simp; omega))
  go_wp2_with (fail)
  refine (judge_y 3 5 3 513 7 1000004 0 0 4 6 _ (by decide) (by omega) (by omega) (by omega) rfl (by omega)).mono ?_
  rintro e w7 ⟨rfl, hb7⟩
  obtain ⟨c7_0, f7_0, z7_0, za7_0, zb7_0, zc7_0⟩ := seen hb7 (w1.heap.size) (by first | omega | (simp; done) | (simp; omega))
  obtain ⟨c7_1, f7_1, z7_1, za7_1, zb7_1, zc7_1⟩ := seen hb7 (w1.heap.size + 1) (by first | omega | (simp; done) | (simp; omega))
  obtain ⟨c7_2, f7_2, z7_2, za7_2, zb7_2, zc7_2⟩ := seen hb7 (w3.heap.size) (by first | omega | (simp; done) | (simp; omega))
  obtain ⟨c7_3, f7_3, z7_3, za7_3, zb7_3, zc7_3⟩ := seen hb7 (w3.heap.size + 1) (by first | omega | (simp; done) | (simp; omega))
  obtain ⟨c7_4, f7_4, z7_4, za7_4, zb7_4, zc7_4⟩ := seen hb7 (w4.heap.size) (by first | omega | (simp; done) | (simp; omega))
  obtain ⟨c7_5, f7_5, z7_5, za7_5, zb7_5, zc7_5⟩ := seen hb7 (w5.heap.size) (by first | omega | (simp; done) | (simp; omega))
  obtain ⟨c7_6, f7_6, z7_6, za7_6, zb7_6, zc7_6⟩ := seen hb7 (w5.heap.size + 1) (by first | omega | (simp; done) | (simp; omega))
  go_wp2_with (fail)
  have L1 : ¬ lateP 1 3 513 10 1 21 := by rintro ⟨_, _, h⟩; omega
  have L2 : lateP 1 3 513 10 1 22 := ⟨by decide, .inl rfl, by omega⟩
  have L3 : ¬ lateP 3 3 513 10 1 99 := by rintro ⟨_, h, _⟩; omega
  simp only [List.append]
  go_region_held3 (fun w' => w'.cell? ⟨w1.heap.size, 0, none⟩ = some (.int .i64 1) ∧ w'.cell? ⟨w1.heap.size, 1, none⟩ = some (.int .i64 3) ∧ w'.cell? ⟨w1.heap.size, 2, none⟩ = some (.int .i64 513) ∧ w'.cell? ⟨w1.heap.size, 3, none⟩ = some (.int .i64 10) ∧ w'.cell? ⟨w1.heap.size, 4, none⟩ = some (.int .i64 1) ∧ w'.cell? ⟨w1.heap.size + 1, 0, none⟩ = some (.int .i64 1) ∧ w'.cell? ⟨w1.heap.size + 1, 1, none⟩ = some (.int .i64 5) ∧ w'.cell? ⟨w1.heap.size + 1, 2, none⟩ = some (.int .i64 3) ∧ w'.cell? ⟨w1.heap.size + 1, 3, none⟩ = some (.int .i64 513) ∧ w'.cell? ⟨w1.heap.size + 1, 4, none⟩ = some (.int .i64 0) ∧ w'.cell? ⟨w1.heap.size + 1, 5, none⟩ = some (.int .i64 0) ∧ w'.cell? ⟨w1.heap.size + 1, 6, none⟩ = some (.int .i64 0) ∧ w'.cell? ⟨w1.heap.size + 1, 7, none⟩ = some (.int .i64 0) ∧ w'.cell? ⟨w3.heap.size, 0, none⟩ = some (.int .i64 2) ∧ w'.cell? ⟨w4.heap.size, 5, none⟩ = some (.int .i64 1000005) ∧ w'.cell? ⟨w5.heap.size, 0, none⟩ = some (.int .i64 3) ∧ w'.cell? ⟨w5.heap.size, 1, none⟩ = some (.int .i64 3) ∧ w'.cell? ⟨w5.heap.size, 2, none⟩ = some (.int .i64 513) ∧ w'.cell? ⟨w5.heap.size, 3, none⟩ = some (.int .i64 10) ∧ w'.cell? ⟨w5.heap.size, 4, none⟩ = some (.int .i64 1) ∧ w'.cell? ⟨w5.heap.size + 1, 0, none⟩ = some (.int .i64 0) ∧ w'.cell? ⟨w5.heap.size + 1, 1, none⟩ = some (.int .i64 0) ∧ w'.cell? ⟨w5.heap.size + 1, 2, none⟩ = some (.int .i64 0) ∧ w'.cell? ⟨w5.heap.size + 1, 3, none⟩ = some (.int .i64 0) ∧ w'.cell? ⟨w5.heap.size + 1, 4, none⟩ = some (.int .i64 0) ∧ w'.cell? ⟨w5.heap.size + 1, 5, none⟩ = some (.int .i64 0) ∧ w'.cell? ⟨w5.heap.size + 1, 6, none⟩ = some (.int .i64 0) ∧ w'.cell? ⟨w5.heap.size + 1, 7, none⟩ = some (.int .i64 0)) (first | (simp [go_sem, *]; done) | (refine ⟨cell_later hb ?_, cell_later hb ?_, cell_later hb ?_, cell_later hb ?_, cell_later hb ?_, cell_later hb ?_, cell_later hb ?_, cell_later hb ?_, cell_later hb ?_, cell_later hb ?_, cell_later hb ?_, cell_later hb ?_, cell_later hb ?_, cell_later hb ?_, cell_later hb ?_, cell_later hb ?_, cell_later hb ?_, cell_later hb ?_, cell_later hb ?_, cell_later hb ?_, cell_later hb ?_, cell_later hb ?_, cell_later hb ?_, cell_later hb ?_, cell_later hb ?_, cell_later hb ?_, cell_later hb ?_, cell_later hb ?_⟩ <;> (simp [go_sem, *]; done))) (first | (go_at_call 17; (first | (with_reducible refine (late_no 1 3 513 10 1 21 _ L1).mono ?_) | (with_reducible refine (late_yes 1 3 513 10 1 22 _ L2).mono ?_) | (with_reducible refine (late_no 3 3 513 10 1 99 _ L3).mono ?_)); rintro e w' ⟨rfl, hb⟩))
  go_wp2_with (fail)
  go_ret
  refine ⟨rfl, ?_⟩
  repeat (first | (with_reducible exact Below.refl _ _) | (with_reducible refine bs_drewN ?_ _) | (with_reducible refine bs_drew ?_) | (with_reducible refine bs_alloc ?_ _) | (with_reducible refine bs_set ?_ _ (by first | (simp; done) | (simp; omega))) | (with_reducible refine bs_step ?_ (by assumption)))
end Go.Proofs.Yteiiglefbbhinaa
