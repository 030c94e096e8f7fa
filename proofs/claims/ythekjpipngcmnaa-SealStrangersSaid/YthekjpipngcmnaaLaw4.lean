/-
  SealStrangers: the walks of the law on package seal, for every input: a frame with the key 0 or an own key is not opened; by an empty ring nothing is opened and nothing sealed (bodies of up to 6000 bytes). No condition.
-/
import Derived.Test.YthekjpipngcmnaaSealH
namespace Go.Proofs.Ythekjpipngcmnaa
open Go.RowKit
set_option linter.unusedVariables false
set_option linter.unusedSimpArgs false
theorem openE_key {a key x y b : Int} (h : key ≤ 0 ∨ 1000000 ≤ key) : (openE a key x y b != 0) = true := by
  rw [bne_iff_ne]; unfold openE; split
  · decide
  split
  · decide
  rw [if_neg (by omega)]; decide
theorem openE_empty {a key x y b : Int} (h : y ≤ x) : (openE a key x y b != 0) = true := by
  rw [bne_iff_ne]; unfold openE; split
  · decide
  split
  · decide
  rw [if_neg (by omega)]; decide
set_option maxHeartbeats 1000000 in
set_option maxRecDepth 100000 in
theorem law4_long (k fr to a key : Int) (A : Option Addr) (n c : Nat) (x y asn id : Int) (w : World) (hn : 6000 < n) : Calls Try.prog 6 #[.agg #[.int .i64 k, .int .i64 fr, .int .i64 to, .int .i64 a, .int .i64 key, .slice A n c], .agg #[.int .i64 x, .int .i64 y], .int .i64 asn, .int .i64 id] w fun e w' => e = .returned (.bool true) ∧ Below w.heap.size w w' := by
  have h' : decide ((6000 : Int) < (n : Int)) = true := decide_eq_true (by omega)
  clear hn
  go_enter Try.func6, Try.ntmps6
  go_wp2_with (fail)
  refine (head_true _).mono ?_
  rintro e w1 ⟨rfl, hb1⟩
  obtain ⟨c1_0, f1_0, z1_0, za1_0, zb1_0, zc1_0⟩ := seen hb1 (w.heap.size) (by first | omega | (simp; done) | (simp; omega))
  go_wp2_with (fail)
  go_ret
  refine ⟨rfl, ?_⟩
  repeat (first | exact Below.refl _ _ | refine bs_step ?_ (by assumption) | refine bs_alloc ?_ _ | refine bs_drew ?_ | refine bs_set ?_ _ (by simp; omega) | refine bs_drewN ?_ _)
set_option maxHeartbeats 1000000 in
set_option maxRecDepth 100000 in
theorem law4_11 (k fr to a key : Int) (A : Option Addr) (n c : Nat) (x y asn id : Int) (w : World) (hn : n ≤ 6000) (hi : 0 ≤ id ∧ id < 60) (hx : x < y) : Calls Try.prog 6 #[.agg #[.int .i64 k, .int .i64 fr, .int .i64 to, .int .i64 a, .int .i64 key, .slice A n c], .agg #[.int .i64 x, .int .i64 y], .int .i64 asn, .int .i64 id] w fun e w' => e = .returned (.bool true) ∧ Below w.heap.size w w' := by
  have h' : decide ((6000 : Int) < (n : Int)) = false := decide_eq_false (by omega)
  clear hn
  have G0 : (openE a 0 x y asn != 0) = true := openE_key (.inl (Int.le_refl _))
  obtain ⟨i0, i1⟩ := hi
  have G1 : (openE a (1000000 + id) x y asn != 0) = true := openE_key (.inr (by omega))
  have hl : decide (x < y) = true := decide_eq_true hx
  clear hx
  go_enter Try.func6, Try.ntmps6
  go_wp2_with (fail)
  refine (head_true _).mono ?_
  rintro e w1 ⟨rfl, hb1⟩
  obtain ⟨c1_0, f1_0, z1_0, za1_0, zb1_0, zc1_0⟩ := seen hb1 (w.heap.size) (by first | omega | (simp; done) | (simp; omega))
  obtain ⟨c1_1, f1_1, z1_1, za1_1, zb1_1, zc1_1⟩ := seen hb1 (w.heap.size + 1) (by first | omega | (simp; done) | (simp; omega))
  go_wp2_with (fail)
  refine (open_all _ _ _ _ _ _ _ _ _ _).mono ?_
  rintro e w2 ⟨rfl, hb2⟩
  obtain ⟨c2_0, f2_0, z2_0, za2_0, zb2_0, zc2_0⟩ := seen hb2 (w.heap.size) (by first | omega | (simp; done) | (simp; omega))
  obtain ⟨c2_1, f2_1, z2_1, za2_1, zb2_1, zc2_1⟩ := seen hb2 (w.heap.size + 1) (by first | omega | (simp; done) | (simp; omega))
  obtain ⟨c2_2, f2_2, z2_2, za2_2, zb2_2, zc2_2⟩ := seen hb2 (w1.heap.size) (by first | omega | (simp; done) | (simp; omega))
  go_wp2_with ((go_at_call 12; refine (own_yes _ i0 i1 _).mono ?_; rintro e w' ⟨rfl, rfl⟩))
  refine (open_all _ _ _ _ _ _ _ _ _ _).mono ?_
  rintro e w3 ⟨rfl, hb3⟩
  obtain ⟨c3_0, f3_0, z3_0, za3_0, zb3_0, zc3_0⟩ := seen hb3 (w.heap.size) (by first | omega | (simp; done) | (simp; omega))
  obtain ⟨c3_1, f3_1, z3_1, za3_1, zb3_1, zc3_1⟩ := seen hb3 (w.heap.size + 1) (by first | omega | (simp; done) | (simp; omega))
  obtain ⟨c3_2, f3_2, z3_2, za3_2, zb3_2, zc3_2⟩ := seen hb3 (w1.heap.size) (by first | omega | (simp; done) | (simp; omega))
  go_wp2_with (fail)
  go_ret
  refine ⟨rfl, ?_⟩
  repeat (first | exact Below.refl _ _ | refine bs_step ?_ (by assumption) | refine bs_alloc ?_ _ | refine bs_drew ?_ | refine bs_set ?_ _ (by simp; omega) | refine bs_drewN ?_ _)
set_option maxHeartbeats 1000000 in
set_option maxRecDepth 100000 in
theorem law4_10 (k fr to a key : Int) (A : Option Addr) (n c : Nat) (x y asn id : Int) (w : World) (hn : n ≤ 6000) (hi : 0 ≤ id ∧ id < 60) (hx : y ≤ x) : Calls Try.prog 6 #[.agg #[.int .i64 k, .int .i64 fr, .int .i64 to, .int .i64 a, .int .i64 key, .slice A n c], .agg #[.int .i64 x, .int .i64 y], .int .i64 asn, .int .i64 id] w fun e w' => e = .returned (.bool true) ∧ Below w.heap.size w w' := by
  have h' : decide ((6000 : Int) < (n : Int)) = false := decide_eq_false (by omega)
  clear hn
  have G0 : (openE a 0 x y asn != 0) = true := openE_key (.inl (Int.le_refl _))
  obtain ⟨i0, i1⟩ := hi
  have G1 : (openE a (1000000 + id) x y asn != 0) = true := openE_key (.inr (by omega))
  have hl : decide (x < y) = false := decide_eq_false (by omega)
  have hs : ¬ sealOk a x y := by unfold sealOk; omega
  have G2 : (openE a key x y asn != 0) = true := openE_empty hx
  have G3 := seal_bad a
  clear hx
  go_enter Try.func6, Try.ntmps6
  go_wp2_with (fail)
  refine (head_true _).mono ?_
  rintro e w1 ⟨rfl, hb1⟩
  obtain ⟨c1_0, f1_0, z1_0, za1_0, zb1_0, zc1_0⟩ := seen hb1 (w.heap.size) (by first | omega | (simp; done) | (simp; omega))
  obtain ⟨c1_1, f1_1, z1_1, za1_1, zb1_1, zc1_1⟩ := seen hb1 (w.heap.size + 1) (by first | omega | (simp; done) | (simp; omega))
  go_wp2_with (fail)
  refine (open_all _ _ _ _ _ _ _ _ _ _).mono ?_
  rintro e w2 ⟨rfl, hb2⟩
  obtain ⟨c2_0, f2_0, z2_0, za2_0, zb2_0, zc2_0⟩ := seen hb2 (w.heap.size) (by first | omega | (simp; done) | (simp; omega))
  obtain ⟨c2_1, f2_1, z2_1, za2_1, zb2_1, zc2_1⟩ := seen hb2 (w.heap.size + 1) (by first | omega | (simp; done) | (simp; omega))
  obtain ⟨c2_2, f2_2, z2_2, za2_2, zb2_2, zc2_2⟩ := seen hb2 (w1.heap.size) (by first | omega | (simp; done) | (simp; omega))
  go_wp2_with ((go_at_call 12; refine (own_yes _ i0 i1 _).mono ?_; rintro e w' ⟨rfl, rfl⟩))
  refine (open_all _ _ _ _ _ _ _ _ _ _).mono ?_
  rintro e w3 ⟨rfl, hb3⟩
  obtain ⟨c3_0, f3_0, z3_0, za3_0, zb3_0, zc3_0⟩ := seen hb3 (w.heap.size) (by first | omega | (simp; done) | (simp; omega))
  obtain ⟨c3_1, f3_1, z3_1, za3_1, zb3_1, zc3_1⟩ := seen hb3 (w.heap.size + 1) (by first | omega | (simp; done) | (simp; omega))
  obtain ⟨c3_2, f3_2, z3_2, za3_2, zb3_2, zc3_2⟩ := seen hb3 (w1.heap.size) (by first | omega | (simp; done) | (simp; omega))
  go_wp2_with (fail)
  refine (seal_no _ _ _ _ _ _ _ _ _ _ hs _).mono ?_
  rintro e w4 ⟨rfl, hb4⟩
  obtain ⟨c4_0, f4_0, z4_0, za4_0, zb4_0, zc4_0⟩ := seen hb4 (w.heap.size) (by first | omega | (simp; done) | (simp; omega))
  obtain ⟨c4_1, f4_1, z4_1, za4_1, zb4_1, zc4_1⟩ := seen hb4 (w.heap.size + 1) (by first | omega | (simp; done) | (simp; omega))
  go_wp2_with (fail)
  refine (open_all _ _ _ _ _ _ _ _ _ _).mono ?_
  rintro e w5 ⟨rfl, hb5⟩
  go_wp2_with (fail)
  go_ret
  refine ⟨rfl, ?_⟩
  repeat (first | exact Below.refl _ _ | refine bs_step ?_ (by assumption) | refine bs_alloc ?_ _ | refine bs_drew ?_ | refine bs_set ?_ _ (by simp; omega) | refine bs_drewN ?_ _)
set_option maxHeartbeats 1000000 in
set_option maxRecDepth 100000 in
theorem law4_01 (k fr to a key : Int) (A : Option Addr) (n c : Nat) (x y asn id : Int) (w : World) (hn : n ≤ 6000) (hi : id < 0 ∨ 60 ≤ id) (hx : x < y) : Calls Try.prog 6 #[.agg #[.int .i64 k, .int .i64 fr, .int .i64 to, .int .i64 a, .int .i64 key, .slice A n c], .agg #[.int .i64 x, .int .i64 y], .int .i64 asn, .int .i64 id] w fun e w' => e = .returned (.bool true) ∧ Below w.heap.size w w' := by
  have h' : decide ((6000 : Int) < (n : Int)) = false := decide_eq_false (by omega)
  clear hn
  have G0 : (openE a 0 x y asn != 0) = true := openE_key (.inl (Int.le_refl _))
  have hl : decide (x < y) = true := decide_eq_true hx
  clear hx
  go_enter Try.func6, Try.ntmps6
  go_wp2_with (fail)
  refine (head_true _).mono ?_
  rintro e w1 ⟨rfl, hb1⟩
  obtain ⟨c1_0, f1_0, z1_0, za1_0, zb1_0, zc1_0⟩ := seen hb1 (w.heap.size) (by first | omega | (simp; done) | (simp; omega))
  obtain ⟨c1_1, f1_1, z1_1, za1_1, zb1_1, zc1_1⟩ := seen hb1 (w.heap.size + 1) (by first | omega | (simp; done) | (simp; omega))
  go_wp2_with (fail)
  refine (open_all _ _ _ _ _ _ _ _ _ _).mono ?_
  rintro e w2 ⟨rfl, hb2⟩
  obtain ⟨c2_0, f2_0, z2_0, za2_0, zb2_0, zc2_0⟩ := seen hb2 (w.heap.size) (by first | omega | (simp; done) | (simp; omega))
  obtain ⟨c2_1, f2_1, z2_1, za2_1, zb2_1, zc2_1⟩ := seen hb2 (w.heap.size + 1) (by first | omega | (simp; done) | (simp; omega))
  obtain ⟨c2_2, f2_2, z2_2, za2_2, zb2_2, zc2_2⟩ := seen hb2 (w1.heap.size) (by first | omega | (simp; done) | (simp; omega))
  go_wp2_with ((go_at_call 12; refine (own_no _ hi _).mono ?_; rintro e w' ⟨rfl, rfl⟩))
  go_ret
  refine ⟨rfl, ?_⟩
  repeat (first | exact Below.refl _ _ | refine bs_step ?_ (by assumption) | refine bs_alloc ?_ _ | refine bs_drew ?_ | refine bs_set ?_ _ (by simp; omega) | refine bs_drewN ?_ _)
set_option maxHeartbeats 1000000 in
set_option maxRecDepth 100000 in
theorem law4_00 (k fr to a key : Int) (A : Option Addr) (n c : Nat) (x y asn id : Int) (w : World) (hn : n ≤ 6000) (hi : id < 0 ∨ 60 ≤ id) (hx : y ≤ x) : Calls Try.prog 6 #[.agg #[.int .i64 k, .int .i64 fr, .int .i64 to, .int .i64 a, .int .i64 key, .slice A n c], .agg #[.int .i64 x, .int .i64 y], .int .i64 asn, .int .i64 id] w fun e w' => e = .returned (.bool true) ∧ Below w.heap.size w w' := by
  have h' : decide ((6000 : Int) < (n : Int)) = false := decide_eq_false (by omega)
  clear hn
  have G0 : (openE a 0 x y asn != 0) = true := openE_key (.inl (Int.le_refl _))
  have hl : decide (x < y) = false := decide_eq_false (by omega)
  have hs : ¬ sealOk a x y := by unfold sealOk; omega
  have G2 : (openE a key x y asn != 0) = true := openE_empty hx
  have G3 := seal_bad a
  clear hx
  go_enter Try.func6, Try.ntmps6
  go_wp2_with (fail)
  refine (head_true _).mono ?_
  rintro e w1 ⟨rfl, hb1⟩
  obtain ⟨c1_0, f1_0, z1_0, za1_0, zb1_0, zc1_0⟩ := seen hb1 (w.heap.size) (by first | omega | (simp; done) | (simp; omega))
  obtain ⟨c1_1, f1_1, z1_1, za1_1, zb1_1, zc1_1⟩ := seen hb1 (w.heap.size + 1) (by first | omega | (simp; done) | (simp; omega))
  go_wp2_with (fail)
  refine (open_all _ _ _ _ _ _ _ _ _ _).mono ?_
  rintro e w2 ⟨rfl, hb2⟩
  obtain ⟨c2_0, f2_0, z2_0, za2_0, zb2_0, zc2_0⟩ := seen hb2 (w.heap.size) (by first | omega | (simp; done) | (simp; omega))
  obtain ⟨c2_1, f2_1, z2_1, za2_1, zb2_1, zc2_1⟩ := seen hb2 (w.heap.size + 1) (by first | omega | (simp; done) | (simp; omega))
  obtain ⟨c2_2, f2_2, z2_2, za2_2, zb2_2, zc2_2⟩ := seen hb2 (w1.heap.size) (by first | omega | (simp; done) | (simp; omega))
  go_wp2_with ((go_at_call 12; refine (own_no _ hi _).mono ?_; rintro e w' ⟨rfl, rfl⟩))
  refine (seal_no _ _ _ _ _ _ _ _ _ _ hs _).mono ?_
  rintro e w3 ⟨rfl, hb3⟩
  obtain ⟨c3_0, f3_0, z3_0, za3_0, zb3_0, zc3_0⟩ := seen hb3 (w.heap.size) (by first | omega | (simp; done) | (simp; omega))
  obtain ⟨c3_1, f3_1, z3_1, za3_1, zb3_1, zc3_1⟩ := seen hb3 (w.heap.size + 1) (by first | omega | (simp; done) | (simp; omega))
  go_wp2_with (fail)
  refine (open_all _ _ _ _ _ _ _ _ _ _).mono ?_
  rintro e w4 ⟨rfl, hb4⟩
  go_wp2_with (fail)
  go_ret
  refine ⟨rfl, ?_⟩
  repeat (first | exact Below.refl _ _ | refine bs_step ?_ (by assumption) | refine bs_alloc ?_ _ | refine bs_drew ?_ | refine bs_set ?_ _ (by simp; omega) | refine bs_drewN ?_ _)
theorem law4_all (k fr to a key : Int) (A : Option Addr) (n c : Nat) (x y asn id : Int) (w : World) : Calls Try.prog 6 #[.agg #[.int .i64 k, .int .i64 fr, .int .i64 to, .int .i64 a, .int .i64 key, .slice A n c], .agg #[.int .i64 x, .int .i64 y], .int .i64 asn, .int .i64 id] w fun e w' => e = .returned (.bool true) ∧ Below w.heap.size w w' := by
  by_cases hn : 6000 < n
  · exact law4_long _ _ _ _ _ _ _ _ _ _ _ _ _ hn
  by_cases hi : 0 ≤ id ∧ id < 60
  · by_cases hx : x < y
    · exact law4_11 _ _ _ _ _ _ _ _ _ _ _ _ _ (by omega) hi hx
    · exact law4_10 _ _ _ _ _ _ _ _ _ _ _ _ _ (by omega) hi (by omega)
  · by_cases hx : x < y
    · exact law4_01 _ _ _ _ _ _ _ _ _ _ _ _ _ (by omega) (by omega) hx
    · exact law4_00 _ _ _ _ _ _ _ _ _ _ _ _ _ (by omega) (by omega) (by omega)
end Go.Proofs.Ythekjpipngcmnaa
