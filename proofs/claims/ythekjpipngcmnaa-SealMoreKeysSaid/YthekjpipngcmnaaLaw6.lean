/-
  SealMoreKeys: the walks of the law on package seal, for every input: a ring that knows more opens what the other one opens, and seals alike what the other one can seal (rings within -2^40 to 2^40, bodies of up to 6000 bytes). No condition.
-/
import Derived.Test.YthekjpipngcmnaaSealH
namespace Go.Proofs.Ythekjpipngcmnaa
open Go.RowKit
set_option linter.unusedVariables false
set_option linter.unusedSimpArgs false
set_option maxHeartbeats 1000000 in
set_option maxRecDepth 100000 in
theorem law6_x0 (k fr to a key : Int) (A : Option Addr) (n c : Nat) (x y p q asn : Int) (w : World) (g0 : 6000 < n) : Calls Try.prog 8 #[.agg #[.int .i64 k, .int .i64 fr, .int .i64 to, .int .i64 a, .int .i64 key, .slice A n c], .agg #[.int .i64 x, .int .i64 y], .int .i64 p, .int .i64 q, .int .i64 asn] w fun e w' => e = .returned (.bool true) ∧ Below w.heap.size w w' := by
  have t0 : decide ((6000 : Int) < (n : Int)) = true := decide_eq_true (by omega)
  go_enter Try.func8, Try.ntmps8
  go_wp2_with (fail)
  refine (head_true _).mono ?_
  rintro e w1 ⟨rfl, hb1⟩
  obtain ⟨c1_0, f1_0, z1_0, za1_0, zb1_0, zc1_0⟩ := seen hb1 (w.heap.size) (by first | omega | (simp; done) | (simp; omega))
  obtain ⟨c1_1, f1_1, z1_1, za1_1, zb1_1, zc1_1⟩ := seen hb1 (w.heap.size + 1) (by first | omega | (simp; done) | (simp; omega))
  go_wp2_with (fail)
  go_ret
  refine ⟨rfl, ?_⟩
  repeat (first | exact Below.refl _ _ | refine bs_step ?_ (by assumption) | refine bs_alloc ?_ _ | refine bs_drew ?_ | refine bs_set ?_ _ (by simp; omega) | refine bs_drewN ?_ _)
set_option maxHeartbeats 1000000 in
set_option maxRecDepth 100000 in
theorem law6_x1 (k fr to a key : Int) (A : Option Addr) (n c : Nat) (x y p q asn : Int) (w : World) (g0 : n ≤ 6000) (g1 : p < 0) : Calls Try.prog 8 #[.agg #[.int .i64 k, .int .i64 fr, .int .i64 to, .int .i64 a, .int .i64 key, .slice A n c], .agg #[.int .i64 x, .int .i64 y], .int .i64 p, .int .i64 q, .int .i64 asn] w fun e w' => e = .returned (.bool true) ∧ Below w.heap.size w w' := by
  have t0 : decide ((6000 : Int) < (n : Int)) = false := decide_eq_false (by omega)
  have t1 : decide (p < 0) = true := decide_eq_true (by omega)
  go_enter Try.func8, Try.ntmps8
  go_wp2_with (fail)
  refine (head_true _).mono ?_
  rintro e w1 ⟨rfl, hb1⟩
  obtain ⟨c1_0, f1_0, z1_0, za1_0, zb1_0, zc1_0⟩ := seen hb1 (w.heap.size) (by first | omega | (simp; done) | (simp; omega))
  obtain ⟨c1_1, f1_1, z1_1, za1_1, zb1_1, zc1_1⟩ := seen hb1 (w.heap.size + 1) (by first | omega | (simp; done) | (simp; omega))
  go_wp2_with (fail)
  go_ret
  refine ⟨rfl, ?_⟩
  repeat (first | exact Below.refl _ _ | refine bs_step ?_ (by assumption) | refine bs_alloc ?_ _ | refine bs_drew ?_ | refine bs_set ?_ _ (by simp; omega) | refine bs_drewN ?_ _)
set_option maxHeartbeats 1000000 in
set_option maxRecDepth 100000 in
theorem law6_x2 (k fr to a key : Int) (A : Option Addr) (n c : Nat) (x y p q asn : Int) (w : World) (g0 : n ≤ 6000) (g1 : 0 ≤ p) (g2 : q < 0) : Calls Try.prog 8 #[.agg #[.int .i64 k, .int .i64 fr, .int .i64 to, .int .i64 a, .int .i64 key, .slice A n c], .agg #[.int .i64 x, .int .i64 y], .int .i64 p, .int .i64 q, .int .i64 asn] w fun e w' => e = .returned (.bool true) ∧ Below w.heap.size w w' := by
  have t0 : decide ((6000 : Int) < (n : Int)) = false := decide_eq_false (by omega)
  have t1 : decide (p < 0) = false := decide_eq_false (by omega)
  have t2 : decide (q < 0) = true := decide_eq_true (by omega)
  go_enter Try.func8, Try.ntmps8
  go_wp2_with (fail)
  refine (head_true _).mono ?_
  rintro e w1 ⟨rfl, hb1⟩
  obtain ⟨c1_0, f1_0, z1_0, za1_0, zb1_0, zc1_0⟩ := seen hb1 (w.heap.size) (by first | omega | (simp; done) | (simp; omega))
  obtain ⟨c1_1, f1_1, z1_1, za1_1, zb1_1, zc1_1⟩ := seen hb1 (w.heap.size + 1) (by first | omega | (simp; done) | (simp; omega))
  go_wp2_with (fail)
  go_ret
  refine ⟨rfl, ?_⟩
  repeat (first | exact Below.refl _ _ | refine bs_step ?_ (by assumption) | refine bs_alloc ?_ _ | refine bs_drew ?_ | refine bs_set ?_ _ (by simp; omega) | refine bs_drewN ?_ _)
set_option maxHeartbeats 1000000 in
set_option maxRecDepth 100000 in
theorem law6_x3 (k fr to a key : Int) (A : Option Addr) (n c : Nat) (x y p q asn : Int) (w : World) (g0 : n ≤ 6000) (g1 : 0 ≤ p) (g2 : 0 ≤ q) (g3 : 1099511627776 < p) : Calls Try.prog 8 #[.agg #[.int .i64 k, .int .i64 fr, .int .i64 to, .int .i64 a, .int .i64 key, .slice A n c], .agg #[.int .i64 x, .int .i64 y], .int .i64 p, .int .i64 q, .int .i64 asn] w fun e w' => e = .returned (.bool true) ∧ Below w.heap.size w w' := by
  have t0 : decide ((6000 : Int) < (n : Int)) = false := decide_eq_false (by omega)
  have t1 : decide (p < 0) = false := decide_eq_false (by omega)
  have t2 : decide (q < 0) = false := decide_eq_false (by omega)
  have t3 : decide (1099511627776 < p) = true := decide_eq_true (by omega)
  go_enter Try.func8, Try.ntmps8
  go_wp2_with (fail)
  refine (head_true _).mono ?_
  rintro e w1 ⟨rfl, hb1⟩
  obtain ⟨c1_0, f1_0, z1_0, za1_0, zb1_0, zc1_0⟩ := seen hb1 (w.heap.size) (by first | omega | (simp; done) | (simp; omega))
  obtain ⟨c1_1, f1_1, z1_1, za1_1, zb1_1, zc1_1⟩ := seen hb1 (w.heap.size + 1) (by first | omega | (simp; done) | (simp; omega))
  go_wp2_with (fail)
  go_ret
  refine ⟨rfl, ?_⟩
  repeat (first | exact Below.refl _ _ | refine bs_step ?_ (by assumption) | refine bs_alloc ?_ _ | refine bs_drew ?_ | refine bs_set ?_ _ (by simp; omega) | refine bs_drewN ?_ _)
set_option maxHeartbeats 1000000 in
set_option maxRecDepth 100000 in
theorem law6_x4 (k fr to a key : Int) (A : Option Addr) (n c : Nat) (x y p q asn : Int) (w : World) (g0 : n ≤ 6000) (g1 : 0 ≤ p) (g2 : 0 ≤ q) (g3 : p ≤ 1099511627776) (g4 : 1099511627776 < q) : Calls Try.prog 8 #[.agg #[.int .i64 k, .int .i64 fr, .int .i64 to, .int .i64 a, .int .i64 key, .slice A n c], .agg #[.int .i64 x, .int .i64 y], .int .i64 p, .int .i64 q, .int .i64 asn] w fun e w' => e = .returned (.bool true) ∧ Below w.heap.size w w' := by
  have t0 : decide ((6000 : Int) < (n : Int)) = false := decide_eq_false (by omega)
  have t1 : decide (p < 0) = false := decide_eq_false (by omega)
  have t2 : decide (q < 0) = false := decide_eq_false (by omega)
  have t3 : decide (1099511627776 < p) = false := decide_eq_false (by omega)
  have t4 : decide (1099511627776 < q) = true := decide_eq_true (by omega)
  go_enter Try.func8, Try.ntmps8
  go_wp2_with (fail)
  refine (head_true _).mono ?_
  rintro e w1 ⟨rfl, hb1⟩
  obtain ⟨c1_0, f1_0, z1_0, za1_0, zb1_0, zc1_0⟩ := seen hb1 (w.heap.size) (by first | omega | (simp; done) | (simp; omega))
  obtain ⟨c1_1, f1_1, z1_1, za1_1, zb1_1, zc1_1⟩ := seen hb1 (w.heap.size + 1) (by first | omega | (simp; done) | (simp; omega))
  go_wp2_with (fail)
  go_ret
  refine ⟨rfl, ?_⟩
  repeat (first | exact Below.refl _ _ | refine bs_step ?_ (by assumption) | refine bs_alloc ?_ _ | refine bs_drew ?_ | refine bs_set ?_ _ (by simp; omega) | refine bs_drewN ?_ _)
set_option maxHeartbeats 1000000 in
set_option maxRecDepth 100000 in
theorem law6_x5 (k fr to a key : Int) (A : Option Addr) (n c : Nat) (x y p q asn : Int) (w : World) (g0 : n ≤ 6000) (g1 : 0 ≤ p) (g2 : 0 ≤ q) (g3 : p ≤ 1099511627776) (g4 : q ≤ 1099511627776) (g5 : x < -1099511627776) : Calls Try.prog 8 #[.agg #[.int .i64 k, .int .i64 fr, .int .i64 to, .int .i64 a, .int .i64 key, .slice A n c], .agg #[.int .i64 x, .int .i64 y], .int .i64 p, .int .i64 q, .int .i64 asn] w fun e w' => e = .returned (.bool true) ∧ Below w.heap.size w w' := by
  have t0 : decide ((6000 : Int) < (n : Int)) = false := decide_eq_false (by omega)
  have t1 : decide (p < 0) = false := decide_eq_false (by omega)
  have t2 : decide (q < 0) = false := decide_eq_false (by omega)
  have t3 : decide (1099511627776 < p) = false := decide_eq_false (by omega)
  have t4 : decide (1099511627776 < q) = false := decide_eq_false (by omega)
  have t5 : decide (x < -1099511627776) = true := decide_eq_true (by omega)
  go_enter Try.func8, Try.ntmps8
  go_wp2_with (fail)
  refine (head_true _).mono ?_
  rintro e w1 ⟨rfl, hb1⟩
  obtain ⟨c1_0, f1_0, z1_0, za1_0, zb1_0, zc1_0⟩ := seen hb1 (w.heap.size) (by first | omega | (simp; done) | (simp; omega))
  obtain ⟨c1_1, f1_1, z1_1, za1_1, zb1_1, zc1_1⟩ := seen hb1 (w.heap.size + 1) (by first | omega | (simp; done) | (simp; omega))
  go_wp2_with (fail)
  go_ret
  refine ⟨rfl, ?_⟩
  repeat (first | exact Below.refl _ _ | refine bs_step ?_ (by assumption) | refine bs_alloc ?_ _ | refine bs_drew ?_ | refine bs_set ?_ _ (by simp; omega) | refine bs_drewN ?_ _)
set_option maxHeartbeats 1000000 in
set_option maxRecDepth 100000 in
theorem law6_x6 (k fr to a key : Int) (A : Option Addr) (n c : Nat) (x y p q asn : Int) (w : World) (g0 : n ≤ 6000) (g1 : 0 ≤ p) (g2 : 0 ≤ q) (g3 : p ≤ 1099511627776) (g4 : q ≤ 1099511627776) (g5 : -1099511627776 ≤ x) (g6 : 1099511627776 < y) : Calls Try.prog 8 #[.agg #[.int .i64 k, .int .i64 fr, .int .i64 to, .int .i64 a, .int .i64 key, .slice A n c], .agg #[.int .i64 x, .int .i64 y], .int .i64 p, .int .i64 q, .int .i64 asn] w fun e w' => e = .returned (.bool true) ∧ Below w.heap.size w w' := by
  have t0 : decide ((6000 : Int) < (n : Int)) = false := decide_eq_false (by omega)
  have t1 : decide (p < 0) = false := decide_eq_false (by omega)
  have t2 : decide (q < 0) = false := decide_eq_false (by omega)
  have t3 : decide (1099511627776 < p) = false := decide_eq_false (by omega)
  have t4 : decide (1099511627776 < q) = false := decide_eq_false (by omega)
  have t5 : decide (x < -1099511627776) = false := decide_eq_false (by omega)
  have t6 : decide (1099511627776 < y) = true := decide_eq_true (by omega)
  go_enter Try.func8, Try.ntmps8
  go_wp2_with (fail)
  refine (head_true _).mono ?_
  rintro e w1 ⟨rfl, hb1⟩
  obtain ⟨c1_0, f1_0, z1_0, za1_0, zb1_0, zc1_0⟩ := seen hb1 (w.heap.size) (by first | omega | (simp; done) | (simp; omega))
  obtain ⟨c1_1, f1_1, z1_1, za1_1, zb1_1, zc1_1⟩ := seen hb1 (w.heap.size + 1) (by first | omega | (simp; done) | (simp; omega))
  go_wp2_with (fail)
  go_ret
  refine ⟨rfl, ?_⟩
  repeat (first | exact Below.refl _ _ | refine bs_step ?_ (by assumption) | refine bs_alloc ?_ _ | refine bs_drew ?_ | refine bs_set ?_ _ (by simp; omega) | refine bs_drewN ?_ _)
set_option maxHeartbeats 1000000 in
set_option maxRecDepth 100000 in
theorem law6_x7 (k fr to a key : Int) (A : Option Addr) (n c : Nat) (x y p q asn : Int) (w : World) (g0 : n ≤ 6000) (g1 : 0 ≤ p) (g2 : 0 ≤ q) (g3 : p ≤ 1099511627776) (g4 : q ≤ 1099511627776) (g5 : -1099511627776 ≤ x) (g6 : y ≤ 1099511627776) (g7 : y ≤ x) : Calls Try.prog 8 #[.agg #[.int .i64 k, .int .i64 fr, .int .i64 to, .int .i64 a, .int .i64 key, .slice A n c], .agg #[.int .i64 x, .int .i64 y], .int .i64 p, .int .i64 q, .int .i64 asn] w fun e w' => e = .returned (.bool true) ∧ Below w.heap.size w w' := by
  have t0 : decide ((6000 : Int) < (n : Int)) = false := decide_eq_false (by omega)
  have t1 : decide (p < 0) = false := decide_eq_false (by omega)
  have t2 : decide (q < 0) = false := decide_eq_false (by omega)
  have t3 : decide (1099511627776 < p) = false := decide_eq_false (by omega)
  have t4 : decide (1099511627776 < q) = false := decide_eq_false (by omega)
  have t5 : decide (x < -1099511627776) = false := decide_eq_false (by omega)
  have t6 : decide (1099511627776 < y) = false := decide_eq_false (by omega)
  have t7 : decide (y ≤ x) = true := decide_eq_true (by omega)
  go_enter Try.func8, Try.ntmps8
  go_wp2_with (fail)
  refine (head_true _).mono ?_
  rintro e w1 ⟨rfl, hb1⟩
  obtain ⟨c1_0, f1_0, z1_0, za1_0, zb1_0, zc1_0⟩ := seen hb1 (w.heap.size) (by first | omega | (simp; done) | (simp; omega))
  obtain ⟨c1_1, f1_1, z1_1, za1_1, zb1_1, zc1_1⟩ := seen hb1 (w.heap.size + 1) (by first | omega | (simp; done) | (simp; omega))
  go_wp2_with (fail)
  go_ret
  refine ⟨rfl, ?_⟩
  repeat (first | exact Below.refl _ _ | refine bs_step ?_ (by assumption) | refine bs_alloc ?_ _ | refine bs_drew ?_ | refine bs_set ?_ _ (by simp; omega) | refine bs_drewN ?_ _)
theorem seal_wide {a x y p q : Int} (h : sealOk a x y) (hp : 0 ≤ p) (hq : 0 ≤ q) : sealOk a (x - p) (y + q) := ⟨h.1, h.2.1, by have := h.2.2.1; omega, by have := h.2.2.2; omega⟩
theorem open_wide {a key x y p q b : Int} (h : openE a key x y b = 0) (hp : 0 ≤ p) (hq : 0 ≤ q) : openE a key (x - p) (y + q) b = 0 := by
  unfold openE at h ⊢
  split at h
  · cases h
  split at h
  · cases h
  split at h
  · rename_i h1 h2 h3
    rw [if_neg h1, if_neg h2, if_pos ⟨h3.1, by omega, by omega⟩]
  · cases h
set_option maxHeartbeats 1000000 in
set_option maxRecDepth 100000 in
theorem law6_yes1 (k fr to a key : Int) (A : Option Addr) (n c : Nat) (x y p q asn : Int) (w : World) (hB : Bytes w A n) (g0 : n ≤ 6000) (g1 : 0 ≤ p) (g2 : 0 ≤ q) (g3 : p ≤ 1099511627776) (g4 : q ≤ 1099511627776) (g5 : -1099511627776 ≤ x) (g6 : y ≤ 1099511627776) (g7 : x < y) (hs : sealOk a x y) (ho : openE a key x y asn = 0) : Calls Try.prog 8 #[.agg #[.int .i64 k, .int .i64 fr, .int .i64 to, .int .i64 a, .int .i64 key, .slice A n c], .agg #[.int .i64 x, .int .i64 y], .int .i64 p, .int .i64 q, .int .i64 asn] w fun e w' => e = .returned (.bool true) ∧ Below w.heap.size w w' := by
  have t0 : decide ((6000 : Int) < (n : Int)) = false := decide_eq_false (by omega)
  have t1 : decide (p < 0) = false := decide_eq_false (by omega)
  have t2 : decide (q < 0) = false := decide_eq_false (by omega)
  have t3 : decide (1099511627776 < p) = false := decide_eq_false (by omega)
  have t4 : decide (1099511627776 < q) = false := decide_eq_false (by omega)
  have t5 : decide (x < -1099511627776) = false := decide_eq_false (by omega)
  have t6 : decide (1099511627776 < y) = false := decide_eq_false (by omega)
  have t7 : decide (y ≤ x) = false := decide_eq_false (by omega)
  have hB0 := Lib.hid hB
  clear hB
  have hv := seal_wide hs g1 g2
  have G0 := Lib.hid ho
  have G1 := Lib.hid (open_wide ho g1 g2)
  clear ho
  go_enter Try.func8, Try.ntmps8
  go_wp2_with (fail)
  refine (head_true _).mono ?_
  rintro e w1 ⟨rfl, hb1⟩
  obtain ⟨c1_0, f1_0, z1_0, za1_0, zb1_0, zc1_0⟩ := seen hb1 (w.heap.size) (by first | omega | (simp; done) | (simp; omega))
  obtain ⟨c1_1, f1_1, z1_1, za1_1, zb1_1, zc1_1⟩ := seen hb1 (w.heap.size + 1) (by first | omega | (simp; done) | (simp; omega))
  go_wp2_with (fail)
  refine (seal_ok _ _ _ _ _ _ _ _ _ _ hs _).mono ?_
  rintro e w2 ⟨rfl, hb2⟩
  obtain ⟨c2_0, f2_0, z2_0, za2_0, zb2_0, zc2_0⟩ := seen hb2 (w.heap.size) (by first | omega | (simp; done) | (simp; omega))
  obtain ⟨c2_1, f2_1, z2_1, za2_1, zb2_1, zc2_1⟩ := seen hb2 (w.heap.size + 1) (by first | omega | (simp; done) | (simp; omega))
  obtain ⟨c2_2, f2_2, z2_2, za2_2, zb2_2, zc2_2⟩ := seen hb2 (w1.heap.size) (by first | omega | (simp; done) | (simp; omega))
  go_wp2_with (fail)
  refine (seal_ok _ _ _ _ _ _ _ _ _ _ hv _).mono ?_
  rintro e w3 ⟨rfl, hb3⟩
  obtain ⟨c3_0, f3_0, z3_0, za3_0, zb3_0, zc3_0⟩ := seen hb3 (w.heap.size) (by first | omega | (simp; done) | (simp; omega))
  obtain ⟨c3_1, f3_1, z3_1, za3_1, zb3_1, zc3_1⟩ := seen hb3 (w.heap.size + 1) (by first | omega | (simp; done) | (simp; omega))
  obtain ⟨c3_2, f3_2, z3_2, za3_2, zb3_2, zc3_2⟩ := seen hb3 (w1.heap.size) (by first | omega | (simp; done) | (simp; omega))
  obtain ⟨c3_3, f3_3, z3_3, za3_3, zb3_3, zc3_3⟩ := seen hb3 (w2.heap.size) (by first | omega | (simp; done) | (simp; omega))
  go_wp2_with (fail)
  refine (sameFrame_refl _ _ _ _ _ _ _ _ _ (hB0.out.below (by repeat (first | exact Below.refl _ _ | refine bs_step ?_ (by assumption) | refine bs_alloc ?_ _ | refine bs_drew ?_)))).mono ?_
  rintro e w4 ⟨rfl, hb4⟩
  obtain ⟨c4_0, f4_0, z4_0, za4_0, zb4_0, zc4_0⟩ := seen hb4 (w.heap.size) (by first | omega | (simp; done) | (simp; omega))
  obtain ⟨c4_1, f4_1, z4_1, za4_1, zb4_1, zc4_1⟩ := seen hb4 (w.heap.size + 1) (by first | omega | (simp; done) | (simp; omega))
  obtain ⟨c4_2, f4_2, z4_2, za4_2, zb4_2, zc4_2⟩ := seen hb4 (w1.heap.size) (by first | omega | (simp; done) | (simp; omega))
  obtain ⟨c4_3, f4_3, z4_3, za4_3, zb4_3, zc4_3⟩ := seen hb4 (w2.heap.size) (by first | omega | (simp; done) | (simp; omega))
  obtain ⟨c4_4, f4_4, z4_4, za4_4, zb4_4, zc4_4⟩ := seen hb4 (w3.heap.size) (by first | omega | (simp; done) | (simp; omega))
  go_wp2_with (fail)
  refine (open_all _ _ _ _ _ _ _ _ _ _).mono ?_
  rintro e w5 ⟨rfl, hb5⟩
  obtain ⟨c5_0, f5_0, z5_0, za5_0, zb5_0, zc5_0⟩ := seen hb5 (w.heap.size) (by first | omega | (simp; done) | (simp; omega))
  obtain ⟨c5_1, f5_1, z5_1, za5_1, zb5_1, zc5_1⟩ := seen hb5 (w.heap.size + 1) (by first | omega | (simp; done) | (simp; omega))
  obtain ⟨c5_2, f5_2, z5_2, za5_2, zb5_2, zc5_2⟩ := seen hb5 (w1.heap.size) (by first | omega | (simp; done) | (simp; omega))
  obtain ⟨c5_3, f5_3, z5_3, za5_3, zb5_3, zc5_3⟩ := seen hb5 (w2.heap.size) (by first | omega | (simp; done) | (simp; omega))
  obtain ⟨c5_4, f5_4, z5_4, za5_4, zb5_4, zc5_4⟩ := seen hb5 (w3.heap.size) (by first | omega | (simp; done) | (simp; omega))
  rw [G0.out]
  go_wp2_with (fail)
  refine (open_all _ _ _ _ _ _ _ _ _ _).mono ?_
  rintro e w6 ⟨rfl, hb6⟩
  rw [G1.out]
  go_wp2_with (fail)
  go_ret
  refine ⟨rfl, ?_⟩
  repeat (first | exact Below.refl _ _ | refine bs_step ?_ (by assumption) | refine bs_alloc ?_ _ | refine bs_drew ?_ | refine bs_set ?_ _ (by simp; omega) | refine bs_drewN ?_ _)
set_option maxHeartbeats 1000000 in
set_option maxRecDepth 100000 in
theorem law6_yes0 (k fr to a key : Int) (A : Option Addr) (n c : Nat) (x y p q asn : Int) (w : World) (hB : Bytes w A n) (g0 : n ≤ 6000) (g1 : 0 ≤ p) (g2 : 0 ≤ q) (g3 : p ≤ 1099511627776) (g4 : q ≤ 1099511627776) (g5 : -1099511627776 ≤ x) (g6 : y ≤ 1099511627776) (g7 : x < y) (hs : sealOk a x y) (hn : openE a key x y asn ≠ 0) : Calls Try.prog 8 #[.agg #[.int .i64 k, .int .i64 fr, .int .i64 to, .int .i64 a, .int .i64 key, .slice A n c], .agg #[.int .i64 x, .int .i64 y], .int .i64 p, .int .i64 q, .int .i64 asn] w fun e w' => e = .returned (.bool true) ∧ Below w.heap.size w w' := by
  have t0 : decide ((6000 : Int) < (n : Int)) = false := decide_eq_false (by omega)
  have t1 : decide (p < 0) = false := decide_eq_false (by omega)
  have t2 : decide (q < 0) = false := decide_eq_false (by omega)
  have t3 : decide (1099511627776 < p) = false := decide_eq_false (by omega)
  have t4 : decide (1099511627776 < q) = false := decide_eq_false (by omega)
  have t5 : decide (x < -1099511627776) = false := decide_eq_false (by omega)
  have t6 : decide (1099511627776 < y) = false := decide_eq_false (by omega)
  have t7 : decide (y ≤ x) = false := decide_eq_false (by omega)
  have hB0 := Lib.hid hB
  clear hB
  have hv := seal_wide hs g1 g2
  have ho : (openE a key x y asn != 0) = true := by rw [bne_iff_ne]; exact hn
  clear hn
  go_enter Try.func8, Try.ntmps8
  go_wp2_with (fail)
  refine (head_true _).mono ?_
  rintro e w1 ⟨rfl, hb1⟩
  obtain ⟨c1_0, f1_0, z1_0, za1_0, zb1_0, zc1_0⟩ := seen hb1 (w.heap.size) (by first | omega | (simp; done) | (simp; omega))
  obtain ⟨c1_1, f1_1, z1_1, za1_1, zb1_1, zc1_1⟩ := seen hb1 (w.heap.size + 1) (by first | omega | (simp; done) | (simp; omega))
  go_wp2_with (fail)
  refine (seal_ok _ _ _ _ _ _ _ _ _ _ hs _).mono ?_
  rintro e w2 ⟨rfl, hb2⟩
  obtain ⟨c2_0, f2_0, z2_0, za2_0, zb2_0, zc2_0⟩ := seen hb2 (w.heap.size) (by first | omega | (simp; done) | (simp; omega))
  obtain ⟨c2_1, f2_1, z2_1, za2_1, zb2_1, zc2_1⟩ := seen hb2 (w.heap.size + 1) (by first | omega | (simp; done) | (simp; omega))
  obtain ⟨c2_2, f2_2, z2_2, za2_2, zb2_2, zc2_2⟩ := seen hb2 (w1.heap.size) (by first | omega | (simp; done) | (simp; omega))
  go_wp2_with (fail)
  refine (seal_ok _ _ _ _ _ _ _ _ _ _ hv _).mono ?_
  rintro e w3 ⟨rfl, hb3⟩
  obtain ⟨c3_0, f3_0, z3_0, za3_0, zb3_0, zc3_0⟩ := seen hb3 (w.heap.size) (by first | omega | (simp; done) | (simp; omega))
  obtain ⟨c3_1, f3_1, z3_1, za3_1, zb3_1, zc3_1⟩ := seen hb3 (w.heap.size + 1) (by first | omega | (simp; done) | (simp; omega))
  obtain ⟨c3_2, f3_2, z3_2, za3_2, zb3_2, zc3_2⟩ := seen hb3 (w1.heap.size) (by first | omega | (simp; done) | (simp; omega))
  obtain ⟨c3_3, f3_3, z3_3, za3_3, zb3_3, zc3_3⟩ := seen hb3 (w2.heap.size) (by first | omega | (simp; done) | (simp; omega))
  go_wp2_with (fail)
  refine (sameFrame_refl _ _ _ _ _ _ _ _ _ (hB0.out.below (by repeat (first | exact Below.refl _ _ | refine bs_step ?_ (by assumption) | refine bs_alloc ?_ _ | refine bs_drew ?_)))).mono ?_
  rintro e w4 ⟨rfl, hb4⟩
  obtain ⟨c4_0, f4_0, z4_0, za4_0, zb4_0, zc4_0⟩ := seen hb4 (w.heap.size) (by first | omega | (simp; done) | (simp; omega))
  obtain ⟨c4_1, f4_1, z4_1, za4_1, zb4_1, zc4_1⟩ := seen hb4 (w.heap.size + 1) (by first | omega | (simp; done) | (simp; omega))
  obtain ⟨c4_2, f4_2, z4_2, za4_2, zb4_2, zc4_2⟩ := seen hb4 (w1.heap.size) (by first | omega | (simp; done) | (simp; omega))
  obtain ⟨c4_3, f4_3, z4_3, za4_3, zb4_3, zc4_3⟩ := seen hb4 (w2.heap.size) (by first | omega | (simp; done) | (simp; omega))
  obtain ⟨c4_4, f4_4, z4_4, za4_4, zb4_4, zc4_4⟩ := seen hb4 (w3.heap.size) (by first | omega | (simp; done) | (simp; omega))
  go_wp2_with (fail)
  refine (open_all _ _ _ _ _ _ _ _ _ _).mono ?_
  rintro e w5 ⟨rfl, hb5⟩
  obtain ⟨c5_0, f5_0, z5_0, za5_0, zb5_0, zc5_0⟩ := seen hb5 (w.heap.size) (by first | omega | (simp; done) | (simp; omega))
  obtain ⟨c5_1, f5_1, z5_1, za5_1, zb5_1, zc5_1⟩ := seen hb5 (w.heap.size + 1) (by first | omega | (simp; done) | (simp; omega))
  obtain ⟨c5_2, f5_2, z5_2, za5_2, zb5_2, zc5_2⟩ := seen hb5 (w1.heap.size) (by first | omega | (simp; done) | (simp; omega))
  obtain ⟨c5_3, f5_3, z5_3, za5_3, zb5_3, zc5_3⟩ := seen hb5 (w2.heap.size) (by first | omega | (simp; done) | (simp; omega))
  obtain ⟨c5_4, f5_4, z5_4, za5_4, zb5_4, zc5_4⟩ := seen hb5 (w3.heap.size) (by first | omega | (simp; done) | (simp; omega))
  go_wp2_with (fail)
  go_ret
  refine ⟨rfl, ?_⟩
  repeat (first | exact Below.refl _ _ | refine bs_step ?_ (by assumption) | refine bs_alloc ?_ _ | refine bs_drew ?_ | refine bs_set ?_ _ (by simp; omega) | refine bs_drewN ?_ _)
set_option maxHeartbeats 1000000 in
set_option maxRecDepth 100000 in
theorem law6_wide1 (k fr to a key : Int) (A : Option Addr) (n c : Nat) (x y p q asn : Int) (w : World) (hB : Bytes w A n) (g0 : n ≤ 6000) (g1 : 0 ≤ p) (g2 : 0 ≤ q) (g3 : p ≤ 1099511627776) (g4 : q ≤ 1099511627776) (g5 : -1099511627776 ≤ x) (g6 : y ≤ 1099511627776) (g7 : x < y) (hs : ¬ sealOk a x y) (hv :  sealOk a (x - p) (y + q)) (ho : openE a key x y asn = 0) : Calls Try.prog 8 #[.agg #[.int .i64 k, .int .i64 fr, .int .i64 to, .int .i64 a, .int .i64 key, .slice A n c], .agg #[.int .i64 x, .int .i64 y], .int .i64 p, .int .i64 q, .int .i64 asn] w fun e w' => e = .returned (.bool true) ∧ Below w.heap.size w w' := by
  have t0 : decide ((6000 : Int) < (n : Int)) = false := decide_eq_false (by omega)
  have t1 : decide (p < 0) = false := decide_eq_false (by omega)
  have t2 : decide (q < 0) = false := decide_eq_false (by omega)
  have t3 : decide (1099511627776 < p) = false := decide_eq_false (by omega)
  have t4 : decide (1099511627776 < q) = false := decide_eq_false (by omega)
  have t5 : decide (x < -1099511627776) = false := decide_eq_false (by omega)
  have t6 : decide (1099511627776 < y) = false := decide_eq_false (by omega)
  have t7 : decide (y ≤ x) = false := decide_eq_false (by omega)
  have hB0 := Lib.hid hB
  clear hB
  have e1 := seal_bad' a
  have G0 := Lib.hid ho
  have G1 := Lib.hid (open_wide ho g1 g2)
  clear ho
  go_enter Try.func8, Try.ntmps8
  go_wp2_with (fail)
  refine (head_true _).mono ?_
  rintro e w1 ⟨rfl, hb1⟩
  obtain ⟨c1_0, f1_0, z1_0, za1_0, zb1_0, zc1_0⟩ := seen hb1 (w.heap.size) (by first | omega | (simp; done) | (simp; omega))
  obtain ⟨c1_1, f1_1, z1_1, za1_1, zb1_1, zc1_1⟩ := seen hb1 (w.heap.size + 1) (by first | omega | (simp; done) | (simp; omega))
  go_wp2_with (fail)
  refine (seal_no _ _ _ _ _ _ _ _ _ _ hs _).mono ?_
  rintro e w2 ⟨rfl, hb2⟩
  obtain ⟨c2_0, f2_0, z2_0, za2_0, zb2_0, zc2_0⟩ := seen hb2 (w.heap.size) (by first | omega | (simp; done) | (simp; omega))
  obtain ⟨c2_1, f2_1, z2_1, za2_1, zb2_1, zc2_1⟩ := seen hb2 (w.heap.size + 1) (by first | omega | (simp; done) | (simp; omega))
  obtain ⟨c2_2, f2_2, z2_2, za2_2, zb2_2, zc2_2⟩ := seen hb2 (w1.heap.size) (by first | omega | (simp; done) | (simp; omega))
  go_wp2_with (fail)
  refine (seal_ok _ _ _ _ _ _ _ _ _ _ hv _).mono ?_
  rintro e w3 ⟨rfl, hb3⟩
  obtain ⟨c3_0, f3_0, z3_0, za3_0, zb3_0, zc3_0⟩ := seen hb3 (w.heap.size) (by first | omega | (simp; done) | (simp; omega))
  obtain ⟨c3_1, f3_1, z3_1, za3_1, zb3_1, zc3_1⟩ := seen hb3 (w.heap.size + 1) (by first | omega | (simp; done) | (simp; omega))
  obtain ⟨c3_2, f3_2, z3_2, za3_2, zb3_2, zc3_2⟩ := seen hb3 (w1.heap.size) (by first | omega | (simp; done) | (simp; omega))
  obtain ⟨c3_3, f3_3, z3_3, za3_3, zb3_3, zc3_3⟩ := seen hb3 (w2.heap.size) (by first | omega | (simp; done) | (simp; omega))
  go_wp2_with (fail)
  refine (open_all _ _ _ _ _ _ _ _ _ _).mono ?_
  rintro e w4 ⟨rfl, hb4⟩
  obtain ⟨c4_0, f4_0, z4_0, za4_0, zb4_0, zc4_0⟩ := seen hb4 (w.heap.size) (by first | omega | (simp; done) | (simp; omega))
  obtain ⟨c4_1, f4_1, z4_1, za4_1, zb4_1, zc4_1⟩ := seen hb4 (w.heap.size + 1) (by first | omega | (simp; done) | (simp; omega))
  obtain ⟨c4_2, f4_2, z4_2, za4_2, zb4_2, zc4_2⟩ := seen hb4 (w1.heap.size) (by first | omega | (simp; done) | (simp; omega))
  obtain ⟨c4_3, f4_3, z4_3, za4_3, zb4_3, zc4_3⟩ := seen hb4 (w2.heap.size) (by first | omega | (simp; done) | (simp; omega))
  obtain ⟨c4_4, f4_4, z4_4, za4_4, zb4_4, zc4_4⟩ := seen hb4 (w3.heap.size) (by first | omega | (simp; done) | (simp; omega))
  rw [G0.out]
  go_wp2_with (fail)
  refine (open_all _ _ _ _ _ _ _ _ _ _).mono ?_
  rintro e w5 ⟨rfl, hb5⟩
  rw [G1.out]
  go_wp2_with (fail)
  go_ret
  refine ⟨rfl, ?_⟩
  repeat (first | exact Below.refl _ _ | refine bs_step ?_ (by assumption) | refine bs_alloc ?_ _ | refine bs_drew ?_ | refine bs_set ?_ _ (by simp; omega) | refine bs_drewN ?_ _)
set_option maxHeartbeats 1000000 in
set_option maxRecDepth 100000 in
theorem law6_wide0 (k fr to a key : Int) (A : Option Addr) (n c : Nat) (x y p q asn : Int) (w : World) (hB : Bytes w A n) (g0 : n ≤ 6000) (g1 : 0 ≤ p) (g2 : 0 ≤ q) (g3 : p ≤ 1099511627776) (g4 : q ≤ 1099511627776) (g5 : -1099511627776 ≤ x) (g6 : y ≤ 1099511627776) (g7 : x < y) (hs : ¬ sealOk a x y) (hv :  sealOk a (x - p) (y + q)) (hn : openE a key x y asn ≠ 0) : Calls Try.prog 8 #[.agg #[.int .i64 k, .int .i64 fr, .int .i64 to, .int .i64 a, .int .i64 key, .slice A n c], .agg #[.int .i64 x, .int .i64 y], .int .i64 p, .int .i64 q, .int .i64 asn] w fun e w' => e = .returned (.bool true) ∧ Below w.heap.size w w' := by
  have t0 : decide ((6000 : Int) < (n : Int)) = false := decide_eq_false (by omega)
  have t1 : decide (p < 0) = false := decide_eq_false (by omega)
  have t2 : decide (q < 0) = false := decide_eq_false (by omega)
  have t3 : decide (1099511627776 < p) = false := decide_eq_false (by omega)
  have t4 : decide (1099511627776 < q) = false := decide_eq_false (by omega)
  have t5 : decide (x < -1099511627776) = false := decide_eq_false (by omega)
  have t6 : decide (1099511627776 < y) = false := decide_eq_false (by omega)
  have t7 : decide (y ≤ x) = false := decide_eq_false (by omega)
  have hB0 := Lib.hid hB
  clear hB
  have e1 := seal_bad' a
  have ho : (openE a key x y asn != 0) = true := by rw [bne_iff_ne]; exact hn
  clear hn
  go_enter Try.func8, Try.ntmps8
  go_wp2_with (fail)
  refine (head_true _).mono ?_
  rintro e w1 ⟨rfl, hb1⟩
  obtain ⟨c1_0, f1_0, z1_0, za1_0, zb1_0, zc1_0⟩ := seen hb1 (w.heap.size) (by first | omega | (simp; done) | (simp; omega))
  obtain ⟨c1_1, f1_1, z1_1, za1_1, zb1_1, zc1_1⟩ := seen hb1 (w.heap.size + 1) (by first | omega | (simp; done) | (simp; omega))
  go_wp2_with (fail)
  refine (seal_no _ _ _ _ _ _ _ _ _ _ hs _).mono ?_
  rintro e w2 ⟨rfl, hb2⟩
  obtain ⟨c2_0, f2_0, z2_0, za2_0, zb2_0, zc2_0⟩ := seen hb2 (w.heap.size) (by first | omega | (simp; done) | (simp; omega))
  obtain ⟨c2_1, f2_1, z2_1, za2_1, zb2_1, zc2_1⟩ := seen hb2 (w.heap.size + 1) (by first | omega | (simp; done) | (simp; omega))
  obtain ⟨c2_2, f2_2, z2_2, za2_2, zb2_2, zc2_2⟩ := seen hb2 (w1.heap.size) (by first | omega | (simp; done) | (simp; omega))
  go_wp2_with (fail)
  refine (seal_ok _ _ _ _ _ _ _ _ _ _ hv _).mono ?_
  rintro e w3 ⟨rfl, hb3⟩
  obtain ⟨c3_0, f3_0, z3_0, za3_0, zb3_0, zc3_0⟩ := seen hb3 (w.heap.size) (by first | omega | (simp; done) | (simp; omega))
  obtain ⟨c3_1, f3_1, z3_1, za3_1, zb3_1, zc3_1⟩ := seen hb3 (w.heap.size + 1) (by first | omega | (simp; done) | (simp; omega))
  obtain ⟨c3_2, f3_2, z3_2, za3_2, zb3_2, zc3_2⟩ := seen hb3 (w1.heap.size) (by first | omega | (simp; done) | (simp; omega))
  obtain ⟨c3_3, f3_3, z3_3, za3_3, zb3_3, zc3_3⟩ := seen hb3 (w2.heap.size) (by first | omega | (simp; done) | (simp; omega))
  go_wp2_with (fail)
  refine (open_all _ _ _ _ _ _ _ _ _ _).mono ?_
  rintro e w4 ⟨rfl, hb4⟩
  obtain ⟨c4_0, f4_0, z4_0, za4_0, zb4_0, zc4_0⟩ := seen hb4 (w.heap.size) (by first | omega | (simp; done) | (simp; omega))
  obtain ⟨c4_1, f4_1, z4_1, za4_1, zb4_1, zc4_1⟩ := seen hb4 (w.heap.size + 1) (by first | omega | (simp; done) | (simp; omega))
  obtain ⟨c4_2, f4_2, z4_2, za4_2, zb4_2, zc4_2⟩ := seen hb4 (w1.heap.size) (by first | omega | (simp; done) | (simp; omega))
  obtain ⟨c4_3, f4_3, z4_3, za4_3, zb4_3, zc4_3⟩ := seen hb4 (w2.heap.size) (by first | omega | (simp; done) | (simp; omega))
  obtain ⟨c4_4, f4_4, z4_4, za4_4, zb4_4, zc4_4⟩ := seen hb4 (w3.heap.size) (by first | omega | (simp; done) | (simp; omega))
  go_wp2_with (fail)
  go_ret
  refine ⟨rfl, ?_⟩
  repeat (first | exact Below.refl _ _ | refine bs_step ?_ (by assumption) | refine bs_alloc ?_ _ | refine bs_drew ?_ | refine bs_set ?_ _ (by simp; omega) | refine bs_drewN ?_ _)
set_option maxHeartbeats 1000000 in
set_option maxRecDepth 100000 in
theorem law6_no1 (k fr to a key : Int) (A : Option Addr) (n c : Nat) (x y p q asn : Int) (w : World) (hB : Bytes w A n) (g0 : n ≤ 6000) (g1 : 0 ≤ p) (g2 : 0 ≤ q) (g3 : p ≤ 1099511627776) (g4 : q ≤ 1099511627776) (g5 : -1099511627776 ≤ x) (g6 : y ≤ 1099511627776) (g7 : x < y) (hs : ¬ sealOk a x y) (hv : ¬ sealOk a (x - p) (y + q)) (ho : openE a key x y asn = 0) : Calls Try.prog 8 #[.agg #[.int .i64 k, .int .i64 fr, .int .i64 to, .int .i64 a, .int .i64 key, .slice A n c], .agg #[.int .i64 x, .int .i64 y], .int .i64 p, .int .i64 q, .int .i64 asn] w fun e w' => e = .returned (.bool true) ∧ Below w.heap.size w w' := by
  have t0 : decide ((6000 : Int) < (n : Int)) = false := decide_eq_false (by omega)
  have t1 : decide (p < 0) = false := decide_eq_false (by omega)
  have t2 : decide (q < 0) = false := decide_eq_false (by omega)
  have t3 : decide (1099511627776 < p) = false := decide_eq_false (by omega)
  have t4 : decide (1099511627776 < q) = false := decide_eq_false (by omega)
  have t5 : decide (x < -1099511627776) = false := decide_eq_false (by omega)
  have t6 : decide (1099511627776 < y) = false := decide_eq_false (by omega)
  have t7 : decide (y ≤ x) = false := decide_eq_false (by omega)
  have hB0 := Lib.hid hB
  clear hB
  have e1 := seal_bad' a
  have G0 := Lib.hid ho
  have G1 := Lib.hid (open_wide ho g1 g2)
  clear ho
  go_enter Try.func8, Try.ntmps8
  go_wp2_with (fail)
  refine (head_true _).mono ?_
  rintro e w1 ⟨rfl, hb1⟩
  obtain ⟨c1_0, f1_0, z1_0, za1_0, zb1_0, zc1_0⟩ := seen hb1 (w.heap.size) (by first | omega | (simp; done) | (simp; omega))
  obtain ⟨c1_1, f1_1, z1_1, za1_1, zb1_1, zc1_1⟩ := seen hb1 (w.heap.size + 1) (by first | omega | (simp; done) | (simp; omega))
  go_wp2_with (fail)
  refine (seal_no _ _ _ _ _ _ _ _ _ _ hs _).mono ?_
  rintro e w2 ⟨rfl, hb2⟩
  obtain ⟨c2_0, f2_0, z2_0, za2_0, zb2_0, zc2_0⟩ := seen hb2 (w.heap.size) (by first | omega | (simp; done) | (simp; omega))
  obtain ⟨c2_1, f2_1, z2_1, za2_1, zb2_1, zc2_1⟩ := seen hb2 (w.heap.size + 1) (by first | omega | (simp; done) | (simp; omega))
  obtain ⟨c2_2, f2_2, z2_2, za2_2, zb2_2, zc2_2⟩ := seen hb2 (w1.heap.size) (by first | omega | (simp; done) | (simp; omega))
  go_wp2_with (fail)
  refine (seal_no _ _ _ _ _ _ _ _ _ _ hv _).mono ?_
  rintro e w3 ⟨rfl, hb3⟩
  obtain ⟨c3_0, f3_0, z3_0, za3_0, zb3_0, zc3_0⟩ := seen hb3 (w.heap.size) (by first | omega | (simp; done) | (simp; omega))
  obtain ⟨c3_1, f3_1, z3_1, za3_1, zb3_1, zc3_1⟩ := seen hb3 (w.heap.size + 1) (by first | omega | (simp; done) | (simp; omega))
  obtain ⟨c3_2, f3_2, z3_2, za3_2, zb3_2, zc3_2⟩ := seen hb3 (w1.heap.size) (by first | omega | (simp; done) | (simp; omega))
  obtain ⟨c3_3, f3_3, z3_3, za3_3, zb3_3, zc3_3⟩ := seen hb3 (w2.heap.size) (by first | omega | (simp; done) | (simp; omega))
  go_wp2_with (fail)
  refine (open_all _ _ _ _ _ _ _ _ _ _).mono ?_
  rintro e w4 ⟨rfl, hb4⟩
  obtain ⟨c4_0, f4_0, z4_0, za4_0, zb4_0, zc4_0⟩ := seen hb4 (w.heap.size) (by first | omega | (simp; done) | (simp; omega))
  obtain ⟨c4_1, f4_1, z4_1, za4_1, zb4_1, zc4_1⟩ := seen hb4 (w.heap.size + 1) (by first | omega | (simp; done) | (simp; omega))
  obtain ⟨c4_2, f4_2, z4_2, za4_2, zb4_2, zc4_2⟩ := seen hb4 (w1.heap.size) (by first | omega | (simp; done) | (simp; omega))
  obtain ⟨c4_3, f4_3, z4_3, za4_3, zb4_3, zc4_3⟩ := seen hb4 (w2.heap.size) (by first | omega | (simp; done) | (simp; omega))
  obtain ⟨c4_4, f4_4, z4_4, za4_4, zb4_4, zc4_4⟩ := seen hb4 (w3.heap.size) (by first | omega | (simp; done) | (simp; omega))
  rw [G0.out]
  go_wp2_with (fail)
  refine (open_all _ _ _ _ _ _ _ _ _ _).mono ?_
  rintro e w5 ⟨rfl, hb5⟩
  rw [G1.out]
  go_wp2_with (fail)
  go_ret
  refine ⟨rfl, ?_⟩
  repeat (first | exact Below.refl _ _ | refine bs_step ?_ (by assumption) | refine bs_alloc ?_ _ | refine bs_drew ?_ | refine bs_set ?_ _ (by simp; omega) | refine bs_drewN ?_ _)
set_option maxHeartbeats 1000000 in
set_option maxRecDepth 100000 in
theorem law6_no0 (k fr to a key : Int) (A : Option Addr) (n c : Nat) (x y p q asn : Int) (w : World) (hB : Bytes w A n) (g0 : n ≤ 6000) (g1 : 0 ≤ p) (g2 : 0 ≤ q) (g3 : p ≤ 1099511627776) (g4 : q ≤ 1099511627776) (g5 : -1099511627776 ≤ x) (g6 : y ≤ 1099511627776) (g7 : x < y) (hs : ¬ sealOk a x y) (hv : ¬ sealOk a (x - p) (y + q)) (hn : openE a key x y asn ≠ 0) : Calls Try.prog 8 #[.agg #[.int .i64 k, .int .i64 fr, .int .i64 to, .int .i64 a, .int .i64 key, .slice A n c], .agg #[.int .i64 x, .int .i64 y], .int .i64 p, .int .i64 q, .int .i64 asn] w fun e w' => e = .returned (.bool true) ∧ Below w.heap.size w w' := by
  have t0 : decide ((6000 : Int) < (n : Int)) = false := decide_eq_false (by omega)
  have t1 : decide (p < 0) = false := decide_eq_false (by omega)
  have t2 : decide (q < 0) = false := decide_eq_false (by omega)
  have t3 : decide (1099511627776 < p) = false := decide_eq_false (by omega)
  have t4 : decide (1099511627776 < q) = false := decide_eq_false (by omega)
  have t5 : decide (x < -1099511627776) = false := decide_eq_false (by omega)
  have t6 : decide (1099511627776 < y) = false := decide_eq_false (by omega)
  have t7 : decide (y ≤ x) = false := decide_eq_false (by omega)
  have hB0 := Lib.hid hB
  clear hB
  have e1 := seal_bad' a
  have ho : (openE a key x y asn != 0) = true := by rw [bne_iff_ne]; exact hn
  clear hn
  go_enter Try.func8, Try.ntmps8
  go_wp2_with (fail)
  refine (head_true _).mono ?_
  rintro e w1 ⟨rfl, hb1⟩
  obtain ⟨c1_0, f1_0, z1_0, za1_0, zb1_0, zc1_0⟩ := seen hb1 (w.heap.size) (by first | omega | (simp; done) | (simp; omega))
  obtain ⟨c1_1, f1_1, z1_1, za1_1, zb1_1, zc1_1⟩ := seen hb1 (w.heap.size + 1) (by first | omega | (simp; done) | (simp; omega))
  go_wp2_with (fail)
  refine (seal_no _ _ _ _ _ _ _ _ _ _ hs _).mono ?_
  rintro e w2 ⟨rfl, hb2⟩
  obtain ⟨c2_0, f2_0, z2_0, za2_0, zb2_0, zc2_0⟩ := seen hb2 (w.heap.size) (by first | omega | (simp; done) | (simp; omega))
  obtain ⟨c2_1, f2_1, z2_1, za2_1, zb2_1, zc2_1⟩ := seen hb2 (w.heap.size + 1) (by first | omega | (simp; done) | (simp; omega))
  obtain ⟨c2_2, f2_2, z2_2, za2_2, zb2_2, zc2_2⟩ := seen hb2 (w1.heap.size) (by first | omega | (simp; done) | (simp; omega))
  go_wp2_with (fail)
  refine (seal_no _ _ _ _ _ _ _ _ _ _ hv _).mono ?_
  rintro e w3 ⟨rfl, hb3⟩
  obtain ⟨c3_0, f3_0, z3_0, za3_0, zb3_0, zc3_0⟩ := seen hb3 (w.heap.size) (by first | omega | (simp; done) | (simp; omega))
  obtain ⟨c3_1, f3_1, z3_1, za3_1, zb3_1, zc3_1⟩ := seen hb3 (w.heap.size + 1) (by first | omega | (simp; done) | (simp; omega))
  obtain ⟨c3_2, f3_2, z3_2, za3_2, zb3_2, zc3_2⟩ := seen hb3 (w1.heap.size) (by first | omega | (simp; done) | (simp; omega))
  obtain ⟨c3_3, f3_3, z3_3, za3_3, zb3_3, zc3_3⟩ := seen hb3 (w2.heap.size) (by first | omega | (simp; done) | (simp; omega))
  go_wp2_with (fail)
  refine (open_all _ _ _ _ _ _ _ _ _ _).mono ?_
  rintro e w4 ⟨rfl, hb4⟩
  obtain ⟨c4_0, f4_0, z4_0, za4_0, zb4_0, zc4_0⟩ := seen hb4 (w.heap.size) (by first | omega | (simp; done) | (simp; omega))
  obtain ⟨c4_1, f4_1, z4_1, za4_1, zb4_1, zc4_1⟩ := seen hb4 (w.heap.size + 1) (by first | omega | (simp; done) | (simp; omega))
  obtain ⟨c4_2, f4_2, z4_2, za4_2, zb4_2, zc4_2⟩ := seen hb4 (w1.heap.size) (by first | omega | (simp; done) | (simp; omega))
  obtain ⟨c4_3, f4_3, z4_3, za4_3, zb4_3, zc4_3⟩ := seen hb4 (w2.heap.size) (by first | omega | (simp; done) | (simp; omega))
  obtain ⟨c4_4, f4_4, z4_4, za4_4, zb4_4, zc4_4⟩ := seen hb4 (w3.heap.size) (by first | omega | (simp; done) | (simp; omega))
  go_wp2_with (fail)
  go_ret
  refine ⟨rfl, ?_⟩
  repeat (first | exact Below.refl _ _ | refine bs_step ?_ (by assumption) | refine bs_alloc ?_ _ | refine bs_drew ?_ | refine bs_set ?_ _ (by simp; omega) | refine bs_drewN ?_ _)
theorem law6_all (k fr to a key : Int) (A : Option Addr) (n c : Nat) (x y p q asn : Int) (w : World) (hB : Bytes w A n) : Calls Try.prog 8 #[.agg #[.int .i64 k, .int .i64 fr, .int .i64 to, .int .i64 a, .int .i64 key, .slice A n c], .agg #[.int .i64 x, .int .i64 y], .int .i64 p, .int .i64 q, .int .i64 asn] w fun e w' => e = .returned (.bool true) ∧ Below w.heap.size w w' := by
  by_cases g0 : 6000 < n
  · exact law6_x0 _ _ _ _ _ _ _ _ _ _ _ _ _ _  g0
  by_cases g1 : p < 0
  · exact law6_x1 _ _ _ _ _ _ _ _ _ _ _ _ _ _ (by omega) g1
  by_cases g2 : q < 0
  · exact law6_x2 _ _ _ _ _ _ _ _ _ _ _ _ _ _ (by omega) (by omega) g2
  by_cases g3 : 1099511627776 < p
  · exact law6_x3 _ _ _ _ _ _ _ _ _ _ _ _ _ _ (by omega) (by omega) (by omega) g3
  by_cases g4 : 1099511627776 < q
  · exact law6_x4 _ _ _ _ _ _ _ _ _ _ _ _ _ _ (by omega) (by omega) (by omega) (by omega) g4
  by_cases g5 : x < -1099511627776
  · exact law6_x5 _ _ _ _ _ _ _ _ _ _ _ _ _ _ (by omega) (by omega) (by omega) (by omega) (by omega) g5
  by_cases g6 : 1099511627776 < y
  · exact law6_x6 _ _ _ _ _ _ _ _ _ _ _ _ _ _ (by omega) (by omega) (by omega) (by omega) (by omega) (by omega) g6
  by_cases g7 : y ≤ x
  · exact law6_x7 _ _ _ _ _ _ _ _ _ _ _ _ _ _ (by omega) (by omega) (by omega) (by omega) (by omega) (by omega) (by omega) g7
  by_cases hs : sealOk a x y
  · by_cases ho : openE a key x y asn = 0
    · exact law6_yes1 _ _ _ _ _ _ _ _ _ _ _ _ _ _ hB (by omega) (by omega) (by omega) (by omega) (by omega) (by omega) (by omega) (by omega) hs ho
    · exact law6_yes0 _ _ _ _ _ _ _ _ _ _ _ _ _ _ hB (by omega) (by omega) (by omega) (by omega) (by omega) (by omega) (by omega) (by omega) hs ho
  by_cases hv : sealOk a (x - p) (y + q)
  · by_cases ho : openE a key x y asn = 0
    · exact law6_wide1 _ _ _ _ _ _ _ _ _ _ _ _ _ _ hB (by omega) (by omega) (by omega) (by omega) (by omega) (by omega) (by omega) (by omega) hs hv ho
    · exact law6_wide0 _ _ _ _ _ _ _ _ _ _ _ _ _ _ hB (by omega) (by omega) (by omega) (by omega) (by omega) (by omega) (by omega) (by omega) hs hv ho
  · by_cases ho : openE a key x y asn = 0
    · exact law6_no1 _ _ _ _ _ _ _ _ _ _ _ _ _ _ hB (by omega) (by omega) (by omega) (by omega) (by omega) (by omega) (by omega) (by omega) hs hv ho
    · exact law6_no0 _ _ _ _ _ _ _ _ _ _ _ _ _ _ hB (by omega) (by omega) (by omega) (by omega) (by omega) (by omega) (by omega) (by omega) hs hv ho
end Go.Proofs.Ythekjpipngcmnaa
