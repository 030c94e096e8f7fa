/-
  SealSealing: the walks of the law on package seal, for every input: what is sealed is the frame of before but for its key; it is opened in its slot by this ring, and by another ring exactly if that one knows the epoch (bodies of up to 6000 bytes). No condition.
-/
import Derived.Test.YthekjpipngcmnaaSealH
namespace Go.Proofs.Ythekjpipngcmnaa
open Go.RowKit
set_option linter.unusedVariables false
set_option linter.unusedSimpArgs false
theorem unknown (x y n : Int) (h : ¬ (x ≤ n ∧ n < y)) : knowsB x y n = false := by
  unfold knowsB; rw [Bool.and_eq_false_iff]; simp only [decide_eq_false_iff_not]; omega
theorem openE_yes {x y a : Int} (h0 : 0 ≤ a) (h1 : a ≤ 1000000000) (hk : knowsB x y (a / 2000) = true) : openE a (a / 2000 + 1) x y a = 0 := by
  unfold knowsB at hk
  rw [Bool.and_eq_true, decide_eq_true_eq, decide_eq_true_eq] at hk
  unfold openE; rw [if_neg (by omega), if_neg (by omega), if_pos ⟨rfl, hk⟩]
theorem openE_no {x y a : Int} (h0 : 0 ≤ a) (h1 : a ≤ 1000000000) (hk : knowsB x y (a / 2000) = false) : openE a (a / 2000 + 1) x y a = 13 := by
  unfold openE; rw [if_neg (by omega), if_neg (by omega), if_neg]
  rintro ⟨_, h, h'⟩
  rw [known _ _ _ h h'] at hk; cases hk
set_option maxRecDepth 100000 in
theorem law2_long (k fr to a key : Int) (A : Option Addr) (n c : Nat) (x y x2 y2 : Int) (w : World) (hn : 6000 < n) : Calls Try.prog 4 #[.agg #[.int .i64 k, .int .i64 fr, .int .i64 to, .int .i64 a, .int .i64 key, .slice A n c], .agg #[.int .i64 x, .int .i64 y], .agg #[.int .i64 x2, .int .i64 y2]] w fun e w' => e = .returned (.bool true) ∧ Below w.heap.size w w' := by
  have h' : decide ((6000 : Int) < (n : Int)) = true := decide_eq_true (by omega)
  clear hn
  go_enter Try.func4, Try.ntmps4
  go_wp2_with (fail)
  refine (head_true _).mono ?_
  rintro e w1 ⟨rfl, hb1⟩
  obtain ⟨c1_0, f1_0, z1_0, za1_0, zb1_0, zc1_0⟩ := seen hb1 (w.heap.size) (by first | omega | (simp; done) | (simp; omega))
  obtain ⟨c1_1, f1_1, z1_1, za1_1, zb1_1, zc1_1⟩ := seen hb1 (w.heap.size + 1) (by first | omega | (simp; done) | (simp; omega))
  go_wp2_with (fail)
  go_ret
  refine ⟨rfl, ?_⟩
  repeat (first | exact Below.refl _ _ | refine bs_step ?_ (by assumption) | refine bs_alloc ?_ _ | refine bs_drew ?_ | refine bs_set ?_ _ ?_ | refine bs_drewN ?_ _)
set_option maxRecDepth 100000 in
theorem law2_no (k fr to a key : Int) (A : Option Addr) (n c : Nat) (x y x2 y2 : Int) (w : World) (hn : n ≤ 6000) (hs : ¬ sealOk a x y) : Calls Try.prog 4 #[.agg #[.int .i64 k, .int .i64 fr, .int .i64 to, .int .i64 a, .int .i64 key, .slice A n c], .agg #[.int .i64 x, .int .i64 y], .agg #[.int .i64 x2, .int .i64 y2]] w fun e w' => e = .returned (.bool true) ∧ Below w.heap.size w w' := by
  have h' : decide ((6000 : Int) < (n : Int)) = false := decide_eq_false (by omega)
  clear hn
  have e1 := seal_bad a
  go_enter Try.func4, Try.ntmps4
  go_wp2_with (fail)
  refine (head_true _).mono ?_
  rintro e w1 ⟨rfl, hb1⟩
  obtain ⟨c1_0, f1_0, z1_0, za1_0, zb1_0, zc1_0⟩ := seen hb1 (w.heap.size) (by first | omega | (simp; done) | (simp; omega))
  obtain ⟨c1_1, f1_1, z1_1, za1_1, zb1_1, zc1_1⟩ := seen hb1 (w.heap.size + 1) (by first | omega | (simp; done) | (simp; omega))
  obtain ⟨c1_2, f1_2, z1_2, za1_2, zb1_2, zc1_2⟩ := seen hb1 (w.heap.size + 1 + 1) (by first | omega | (simp; done) | (simp; omega))
  go_wp2_with (fail)
  refine (seal_no _ _ _ _ _ _ _ _ _ _ hs _).mono ?_
  rintro e w2 ⟨rfl, hb2⟩
  obtain ⟨c2_0, f2_0, z2_0, za2_0, zb2_0, zc2_0⟩ := seen hb2 (w.heap.size) (by first | omega | (simp; done) | (simp; omega))
  obtain ⟨c2_1, f2_1, z2_1, za2_1, zb2_1, zc2_1⟩ := seen hb2 (w.heap.size + 1) (by first | omega | (simp; done) | (simp; omega))
  obtain ⟨c2_2, f2_2, z2_2, za2_2, zb2_2, zc2_2⟩ := seen hb2 (w.heap.size + 1 + 1) (by first | omega | (simp; done) | (simp; omega))
  go_wp2_with (fail)
  go_ret
  refine ⟨rfl, ?_⟩
  repeat (first | exact Below.refl _ _ | refine bs_step ?_ (by assumption) | refine bs_alloc ?_ _ | refine bs_drew ?_ | refine bs_set ?_ _ ?_ | refine bs_drewN ?_ _)
set_option maxHeartbeats 1000000 in
set_option maxRecDepth 100000 in
theorem law2_ok (k fr to a key : Int) (A : Option Addr) (n c : Nat) (x y x2 y2 : Int) (w : World) (hB : Bytes w A n) (hn : n ≤ 6000) (hs : sealOk a x y) (hk2 : x2 ≤ a / 2000 ∧ a / 2000 < y2) : Calls Try.prog 4 #[.agg #[.int .i64 k, .int .i64 fr, .int .i64 to, .int .i64 a, .int .i64 key, .slice A n c], .agg #[.int .i64 x, .int .i64 y], .agg #[.int .i64 x2, .int .i64 y2]] w fun e w' => e = .returned (.bool true) ∧ Below w.heap.size w w' := by
  have h' : decide ((6000 : Int) < (n : Int)) = false := decide_eq_false (by omega)
  clear hn
  have hB0 := Lib.hid hB
  clear hB
  obtain ⟨h0, h1, h2, h3⟩ := hs
  have hk : knowsB x2 y2 (a / 2000) = true := known _ _ _ hk2.1 hk2.2
  clear hk2
  have g0 : openE a (a / 2000 + 1) x2 y2 a = 0 := openE_yes h0 h1 hk
  have g1 : openE a (a / 2000 + 1) x y a = 0 := openE_yes h0 h1 (known _ _ _ h2 h3)
  have G0 := Lib.hid g0; clear g0
  have G1 := Lib.hid g1; clear g1
  go_enter Try.func4, Try.ntmps4
  go_wp2_with (fail)
  refine (head_true _).mono ?_
  rintro e w1 ⟨rfl, hb1⟩
  obtain ⟨c1_0, f1_0, z1_0, za1_0, zb1_0, zc1_0⟩ := seen hb1 (w.heap.size) (by first | omega | (simp; done) | (simp; omega))
  obtain ⟨c1_1, f1_1, z1_1, za1_1, zb1_1, zc1_1⟩ := seen hb1 (w.heap.size + 1) (by first | omega | (simp; done) | (simp; omega))
  obtain ⟨c1_2, f1_2, z1_2, za1_2, zb1_2, zc1_2⟩ := seen hb1 (w.heap.size + 1 + 1) (by first | omega | (simp; done) | (simp; omega))
  go_wp2_with (fail)
  refine (seal_ok _ _ _ _ _ _ _ _ _ _ ⟨h0, h1, h2, h3⟩ _).mono ?_
  rintro e w2 ⟨rfl, hb2⟩
  obtain ⟨c2_0, f2_0, z2_0, za2_0, zb2_0, zc2_0⟩ := seen hb2 (w.heap.size) (by first | omega | (simp; done) | (simp; omega))
  obtain ⟨c2_1, f2_1, z2_1, za2_1, zb2_1, zc2_1⟩ := seen hb2 (w.heap.size + 1) (by first | omega | (simp; done) | (simp; omega))
  obtain ⟨c2_2, f2_2, z2_2, za2_2, zb2_2, zc2_2⟩ := seen hb2 (w.heap.size + 1 + 1) (by first | omega | (simp; done) | (simp; omega))
  go_wp2_with ((go_at_call 10; refine (key_yes _ h0 h1 _).mono ?_; rintro e w' ⟨rfl, rfl⟩))
  go_region_held3 (fun w' => w'.cell? ⟨w.heap.size, 3, none⟩ = some (.int .i64 a) ∧ w'.cell? ⟨w.heap.size + 1 + 1, 0, none⟩ = some (.int .i64 x2) ∧ w'.cell? ⟨w.heap.size + 1 + 1, 1, none⟩ = some (.int .i64 y2)) (first | (simp [go_sem, *]; done) | (refine ⟨cell_more ?_, cell_more ?_, cell_more ?_⟩ <;> (simp [go_sem, *]; done))) (first | (go_at_call 20; refine (repoch _ h0 h1 _).mono ?_; rintro e w' ⟨rfl, rfl⟩) | (go_at_call 19; refine (rknows _ _ _ _).mono ?_; rintro e w' ⟨rfl, rfl⟩))
  go_wp2_with (fail)
  refine (open_all _ _ _ _ _ _ _ _ _ _).mono ?_
  rintro e w3 ⟨rfl, hb3⟩
  obtain ⟨c3_0, f3_0, z3_0, za3_0, zb3_0, zc3_0⟩ := seen hb3 (w.heap.size) (by first | omega | (simp; done) | (simp; omega))
  obtain ⟨c3_1, f3_1, z3_1, za3_1, zb3_1, zc3_1⟩ := seen hb3 (w.heap.size + 1) (by first | omega | (simp; done) | (simp; omega))
  obtain ⟨c3_2, f3_2, z3_2, za3_2, zb3_2, zc3_2⟩ := seen hb3 (w.heap.size + 1 + 1) (by first | omega | (simp; done) | (simp; omega))
  obtain ⟨c3_3, f3_3, z3_3, za3_3, zb3_3, zc3_3⟩ := seen hb3 (w2.heap.size) (by first | omega | (simp; done) | (simp; omega))
  obtain ⟨c3_4, f3_4, z3_4, za3_4, zb3_4, zc3_4⟩ := seen hb3 (w2.heap.size + 1) (by first | omega | (simp; done) | (simp; omega))
  rw [G0.out]
  go_wp2_with (fail)
  refine (sameFrame_refl _ _ _ _ _ _ _ _ _ (hB0.out.below (by repeat (first | exact Below.refl _ _ | refine bs_step ?_ (by assumption) | refine bs_alloc ?_ _ | refine bs_drew ?_)))).mono ?_
  rintro e w4 ⟨rfl, hb4⟩
  obtain ⟨c4_0, f4_0, z4_0, za4_0, zb4_0, zc4_0⟩ := seen hb4 (w.heap.size) (by first | omega | (simp; done) | (simp; omega))
  obtain ⟨c4_1, f4_1, z4_1, za4_1, zb4_1, zc4_1⟩ := seen hb4 (w.heap.size + 1) (by first | omega | (simp; done) | (simp; omega))
  obtain ⟨c4_2, f4_2, z4_2, za4_2, zb4_2, zc4_2⟩ := seen hb4 (w.heap.size + 1 + 1) (by first | omega | (simp; done) | (simp; omega))
  obtain ⟨c4_3, f4_3, z4_3, za4_3, zb4_3, zc4_3⟩ := seen hb4 (w2.heap.size) (by first | omega | (simp; done) | (simp; omega))
  obtain ⟨c4_4, f4_4, z4_4, za4_4, zb4_4, zc4_4⟩ := seen hb4 (w2.heap.size + 1) (by first | omega | (simp; done) | (simp; omega))
  go_wp2_with (fail)
  refine (open_all _ _ _ _ _ _ _ _ _ _).mono ?_
  rintro e w5 ⟨rfl, hb5⟩
  obtain ⟨c5_0, f5_0, z5_0, za5_0, zb5_0, zc5_0⟩ := seen hb5 (w.heap.size) (by first | omega | (simp; done) | (simp; omega))
  obtain ⟨c5_1, f5_1, z5_1, za5_1, zb5_1, zc5_1⟩ := seen hb5 (w.heap.size + 1) (by first | omega | (simp; done) | (simp; omega))
  obtain ⟨c5_2, f5_2, z5_2, za5_2, zb5_2, zc5_2⟩ := seen hb5 (w.heap.size + 1 + 1) (by first | omega | (simp; done) | (simp; omega))
  obtain ⟨c5_3, f5_3, z5_3, za5_3, zb5_3, zc5_3⟩ := seen hb5 (w2.heap.size) (by first | omega | (simp; done) | (simp; omega))
  obtain ⟨c5_4, f5_4, z5_4, za5_4, zb5_4, zc5_4⟩ := seen hb5 (w2.heap.size + 1) (by first | omega | (simp; done) | (simp; omega))
  rw [G1.out]
  go_wp2_with (fail)
  go_ret
  refine ⟨rfl, ?_⟩
  repeat (first | exact Below.refl _ _ | refine bs_step ?_ (by assumption) | refine bs_alloc ?_ _ | refine bs_drew ?_ | refine bs_set ?_ _ ?_ | refine bs_drewN ?_ _)
set_option maxHeartbeats 1000000 in
set_option maxRecDepth 100000 in
theorem law2_un (k fr to a key : Int) (A : Option Addr) (n c : Nat) (x y x2 y2 : Int) (w : World) (hB : Bytes w A n) (hn : n ≤ 6000) (hs : sealOk a x y) (hk2 : ¬ (x2 ≤ a / 2000 ∧ a / 2000 < y2)) : Calls Try.prog 4 #[.agg #[.int .i64 k, .int .i64 fr, .int .i64 to, .int .i64 a, .int .i64 key, .slice A n c], .agg #[.int .i64 x, .int .i64 y], .agg #[.int .i64 x2, .int .i64 y2]] w fun e w' => e = .returned (.bool true) ∧ Below w.heap.size w w' := by
  have h' : decide ((6000 : Int) < (n : Int)) = false := decide_eq_false (by omega)
  clear hn
  have hB0 := Lib.hid hB
  clear hB
  obtain ⟨h0, h1, h2, h3⟩ := hs
  have hk : knowsB x2 y2 (a / 2000) = false := unknown _ _ _ hk2
  clear hk2
  have g0 : openE a (a / 2000 + 1) x2 y2 a = 13 := openE_no h0 h1 hk
  have g1 : openE a (a / 2000 + 1) x y a = 0 := openE_yes h0 h1 (known _ _ _ h2 h3)
  have G0 := Lib.hid g0; clear g0
  have G1 := Lib.hid g1; clear g1
  go_enter Try.func4, Try.ntmps4
  go_wp2_with (fail)
  refine (head_true _).mono ?_
  rintro e w1 ⟨rfl, hb1⟩
  obtain ⟨c1_0, f1_0, z1_0, za1_0, zb1_0, zc1_0⟩ := seen hb1 (w.heap.size) (by first | omega | (simp; done) | (simp; omega))
  obtain ⟨c1_1, f1_1, z1_1, za1_1, zb1_1, zc1_1⟩ := seen hb1 (w.heap.size + 1) (by first | omega | (simp; done) | (simp; omega))
  obtain ⟨c1_2, f1_2, z1_2, za1_2, zb1_2, zc1_2⟩ := seen hb1 (w.heap.size + 1 + 1) (by first | omega | (simp; done) | (simp; omega))
  go_wp2_with (fail)
  refine (seal_ok _ _ _ _ _ _ _ _ _ _ ⟨h0, h1, h2, h3⟩ _).mono ?_
  rintro e w2 ⟨rfl, hb2⟩
  obtain ⟨c2_0, f2_0, z2_0, za2_0, zb2_0, zc2_0⟩ := seen hb2 (w.heap.size) (by first | omega | (simp; done) | (simp; omega))
  obtain ⟨c2_1, f2_1, z2_1, za2_1, zb2_1, zc2_1⟩ := seen hb2 (w.heap.size + 1) (by first | omega | (simp; done) | (simp; omega))
  obtain ⟨c2_2, f2_2, z2_2, za2_2, zb2_2, zc2_2⟩ := seen hb2 (w.heap.size + 1 + 1) (by first | omega | (simp; done) | (simp; omega))
  go_wp2_with ((go_at_call 10; refine (key_yes _ h0 h1 _).mono ?_; rintro e w' ⟨rfl, rfl⟩))
  go_region_held3 (fun w' => w'.cell? ⟨w.heap.size, 3, none⟩ = some (.int .i64 a) ∧ w'.cell? ⟨w.heap.size + 1 + 1, 0, none⟩ = some (.int .i64 x2) ∧ w'.cell? ⟨w.heap.size + 1 + 1, 1, none⟩ = some (.int .i64 y2)) (first | (simp [go_sem, *]; done) | (refine ⟨cell_more ?_, cell_more ?_, cell_more ?_⟩ <;> (simp [go_sem, *]; done))) (first | (go_at_call 20; refine (repoch _ h0 h1 _).mono ?_; rintro e w' ⟨rfl, rfl⟩) | (go_at_call 19; refine (rknows _ _ _ _).mono ?_; rintro e w' ⟨rfl, rfl⟩))
  go_wp2_with (fail)
  refine (open_all _ _ _ _ _ _ _ _ _ _).mono ?_
  rintro e w3 ⟨rfl, hb3⟩
  obtain ⟨c3_0, f3_0, z3_0, za3_0, zb3_0, zc3_0⟩ := seen hb3 (w.heap.size) (by first | omega | (simp; done) | (simp; omega))
  obtain ⟨c3_1, f3_1, z3_1, za3_1, zb3_1, zc3_1⟩ := seen hb3 (w.heap.size + 1) (by first | omega | (simp; done) | (simp; omega))
  obtain ⟨c3_2, f3_2, z3_2, za3_2, zb3_2, zc3_2⟩ := seen hb3 (w.heap.size + 1 + 1) (by first | omega | (simp; done) | (simp; omega))
  obtain ⟨c3_3, f3_3, z3_3, za3_3, zb3_3, zc3_3⟩ := seen hb3 (w2.heap.size) (by first | omega | (simp; done) | (simp; omega))
  obtain ⟨c3_4, f3_4, z3_4, za3_4, zb3_4, zc3_4⟩ := seen hb3 (w2.heap.size + 1) (by first | omega | (simp; done) | (simp; omega))
  rw [G0.out]
  go_wp2_with (fail)
  refine (sameFrame_refl _ _ _ _ _ _ _ _ _ (hB0.out.below (by repeat (first | exact Below.refl _ _ | refine bs_step ?_ (by assumption) | refine bs_alloc ?_ _ | refine bs_drew ?_)))).mono ?_
  rintro e w4 ⟨rfl, hb4⟩
  obtain ⟨c4_0, f4_0, z4_0, za4_0, zb4_0, zc4_0⟩ := seen hb4 (w.heap.size) (by first | omega | (simp; done) | (simp; omega))
  obtain ⟨c4_1, f4_1, z4_1, za4_1, zb4_1, zc4_1⟩ := seen hb4 (w.heap.size + 1) (by first | omega | (simp; done) | (simp; omega))
  obtain ⟨c4_2, f4_2, z4_2, za4_2, zb4_2, zc4_2⟩ := seen hb4 (w.heap.size + 1 + 1) (by first | omega | (simp; done) | (simp; omega))
  obtain ⟨c4_3, f4_3, z4_3, za4_3, zb4_3, zc4_3⟩ := seen hb4 (w2.heap.size) (by first | omega | (simp; done) | (simp; omega))
  obtain ⟨c4_4, f4_4, z4_4, za4_4, zb4_4, zc4_4⟩ := seen hb4 (w2.heap.size + 1) (by first | omega | (simp; done) | (simp; omega))
  go_wp2_with (fail)
  refine (open_all _ _ _ _ _ _ _ _ _ _).mono ?_
  rintro e w5 ⟨rfl, hb5⟩
  obtain ⟨c5_0, f5_0, z5_0, za5_0, zb5_0, zc5_0⟩ := seen hb5 (w.heap.size) (by first | omega | (simp; done) | (simp; omega))
  obtain ⟨c5_1, f5_1, z5_1, za5_1, zb5_1, zc5_1⟩ := seen hb5 (w.heap.size + 1) (by first | omega | (simp; done) | (simp; omega))
  obtain ⟨c5_2, f5_2, z5_2, za5_2, zb5_2, zc5_2⟩ := seen hb5 (w.heap.size + 1 + 1) (by first | omega | (simp; done) | (simp; omega))
  obtain ⟨c5_3, f5_3, z5_3, za5_3, zb5_3, zc5_3⟩ := seen hb5 (w2.heap.size) (by first | omega | (simp; done) | (simp; omega))
  obtain ⟨c5_4, f5_4, z5_4, za5_4, zb5_4, zc5_4⟩ := seen hb5 (w2.heap.size + 1) (by first | omega | (simp; done) | (simp; omega))
  rw [G1.out]
  go_wp2_with (fail)
  go_ret
  refine ⟨rfl, ?_⟩
  repeat (first | exact Below.refl _ _ | refine bs_step ?_ (by assumption) | refine bs_alloc ?_ _ | refine bs_drew ?_ | refine bs_set ?_ _ ?_ | refine bs_drewN ?_ _)
theorem law2_all (k fr to a key : Int) (A : Option Addr) (n c : Nat) (x y x2 y2 : Int) (w : World) (hB : Bytes w A n) : Calls Try.prog 4 #[.agg #[.int .i64 k, .int .i64 fr, .int .i64 to, .int .i64 a, .int .i64 key, .slice A n c], .agg #[.int .i64 x, .int .i64 y], .agg #[.int .i64 x2, .int .i64 y2]] w fun e w' => e = .returned (.bool true) ∧ Below w.heap.size w w' := by
  by_cases hn : 6000 < n
  · exact law2_long _ _ _ _ _ _ _ _ _ _ _ _ _ hn
  by_cases hs : sealOk a x y
  · by_cases hk : x2 ≤ a / 2000 ∧ a / 2000 < y2
    · exact law2_ok _ _ _ _ _ _ _ _ _ _ _ _ _ hB (by omega) hs hk
    · exact law2_un _ _ _ _ _ _ _ _ _ _ _ _ _ hB (by omega) hs hk
  · exact law2_no _ _ _ _ _ _ _ _ _ _ _ _ _ (by omega) hs
end Go.Proofs.Ythekjpipngcmnaa
