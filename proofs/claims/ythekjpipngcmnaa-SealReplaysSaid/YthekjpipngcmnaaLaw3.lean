/-
  SealReplays: the walks of the law on package seal, for every input: a sealed frame is not opened in a slot that is not its own (bodies of up to 6000 bytes). No condition.
-/
import Derived.Test.YthekjpipngcmnaaSealH
namespace Go.Proofs.Ythekjpipngcmnaa
open Go.RowKit
set_option linter.unusedVariables false
set_option linter.unusedSimpArgs false
theorem openE_ne {a key x y b : Int} (h : a ≠ b) (hb : b < 0 ∨ 1000000000 < b) : openE a key x y b = 1 := by unfold openE; rw [if_pos hb]
theorem openE_ne' {a key x y b : Int} (h : a ≠ b) (hb : 0 ≤ b) (hb' : b ≤ 1000000000) : openE a key x y b = 14 := by unfold openE; rw [if_neg (by omega), if_pos h]
set_option maxHeartbeats 1000000 in
set_option maxRecDepth 100000 in
theorem law3_long (k fr to a key : Int) (A : Option Addr) (n c : Nat) (x y x2 y2 asn : Int) (w : World) (hn : 6000 < n) : Calls Try.prog 5 #[.agg #[.int .i64 k, .int .i64 fr, .int .i64 to, .int .i64 a, .int .i64 key, .slice A n c], .agg #[.int .i64 x, .int .i64 y], .agg #[.int .i64 x2, .int .i64 y2], .int .i64 asn] w fun e w' => e = .returned (.bool true) ∧ Below w.heap.size w w' := by
  have h' : decide ((6000 : Int) < (n : Int)) = true := decide_eq_true (by omega)
  clear hn
  go_enter Try.func5, Try.ntmps5
  go_wp2_with (fail)
  refine (head_true _).mono ?_
  rintro e w1 ⟨rfl, hb1⟩
  obtain ⟨c1_0, f1_0, z1_0, za1_0, zb1_0, zc1_0⟩ := seen hb1 (w.heap.size) (by first | omega | (simp; done) | (simp; omega))
  go_wp2_with (fail)
  go_ret
  refine ⟨rfl, ?_⟩
  repeat (first | exact Below.refl _ _ | refine bs_step ?_ (by assumption) | refine bs_alloc ?_ _ | refine bs_drew ?_ | refine bs_set ?_ _ (by simp; omega) | refine bs_drewN ?_ _)
set_option maxHeartbeats 1000000 in
set_option maxRecDepth 100000 in
theorem law3_eq (k fr to a key : Int) (A : Option Addr) (n c : Nat) (x y x2 y2 asn : Int) (w : World) (hn : n ≤ 6000) (he : asn = a) : Calls Try.prog 5 #[.agg #[.int .i64 k, .int .i64 fr, .int .i64 to, .int .i64 a, .int .i64 key, .slice A n c], .agg #[.int .i64 x, .int .i64 y], .agg #[.int .i64 x2, .int .i64 y2], .int .i64 asn] w fun e w' => e = .returned (.bool true) ∧ Below w.heap.size w w' := by
  have h' : decide ((6000 : Int) < (n : Int)) = false := decide_eq_false (by omega)
  clear hn
  subst he
  go_enter Try.func5, Try.ntmps5
  go_wp2_with (fail)
  refine (head_true _).mono ?_
  rintro e w1 ⟨rfl, hb1⟩
  obtain ⟨c1_0, f1_0, z1_0, za1_0, zb1_0, zc1_0⟩ := seen hb1 (w.heap.size) (by first | omega | (simp; done) | (simp; omega))
  go_wp2_with (fail)
  go_ret
  refine ⟨rfl, ?_⟩
  repeat (first | exact Below.refl _ _ | refine bs_step ?_ (by assumption) | refine bs_alloc ?_ _ | refine bs_drew ?_ | refine bs_set ?_ _ (by simp; omega) | refine bs_drewN ?_ _)
set_option maxHeartbeats 1000000 in
set_option maxRecDepth 100000 in
theorem law3_11 (k fr to a key : Int) (A : Option Addr) (n c : Nat) (x y x2 y2 asn : Int) (w : World) (hn : n ≤ 6000) (hs : sealOk a x y) (he : a ≠ asn) (hb : 0 ≤ asn ∧ asn ≤ 1000000000) : Calls Try.prog 5 #[.agg #[.int .i64 k, .int .i64 fr, .int .i64 to, .int .i64 a, .int .i64 key, .slice A n c], .agg #[.int .i64 x, .int .i64 y], .agg #[.int .i64 x2, .int .i64 y2], .int .i64 asn] w fun e w' => e = .returned (.bool true) ∧ Below w.heap.size w w' := by
  have h' : decide ((6000 : Int) < (n : Int)) = false := decide_eq_false (by omega)
  clear hn
  have e1 : (asn == a) = false := beq_eq_false_iff_ne.2 (fun h => he h.symm)
  have G0 := Lib.hid (show openE a key x2 y2 asn = 14 from openE_ne' he hb.1 hb.2)
  have G1 := Lib.hid (show openE a (a / 2000 + 1) x2 y2 asn = 14 from openE_ne' he hb.1 hb.2)
  clear he hb
  go_enter Try.func5, Try.ntmps5
  go_wp2_with (fail)
  refine (head_true _).mono ?_
  rintro e w1 ⟨rfl, hb1⟩
  obtain ⟨c1_0, f1_0, z1_0, za1_0, zb1_0, zc1_0⟩ := seen hb1 (w.heap.size) (by first | omega | (simp; done) | (simp; omega))
  obtain ⟨c1_1, f1_1, z1_1, za1_1, zb1_1, zc1_1⟩ := seen hb1 (w.heap.size + 1) (by first | omega | (simp; done) | (simp; omega))
  obtain ⟨c1_2, f1_2, z1_2, za1_2, zb1_2, zc1_2⟩ := seen hb1 (w.heap.size + 1 + 1) (by first | omega | (simp; done) | (simp; omega))
  go_wp2_with (fail)
  refine (seal_ok _ _ _ _ _ _ _ _ _ _ hs _).mono ?_
  rintro e w2 ⟨rfl, hb2⟩
  obtain ⟨c2_0, f2_0, z2_0, za2_0, zb2_0, zc2_0⟩ := seen hb2 (w.heap.size) (by first | omega | (simp; done) | (simp; omega))
  obtain ⟨c2_1, f2_1, z2_1, za2_1, zb2_1, zc2_1⟩ := seen hb2 (w.heap.size + 1) (by first | omega | (simp; done) | (simp; omega))
  obtain ⟨c2_2, f2_2, z2_2, za2_2, zb2_2, zc2_2⟩ := seen hb2 (w.heap.size + 1 + 1) (by first | omega | (simp; done) | (simp; omega))
  go_wp2_with (fail)
  refine (open_all _ _ _ _ _ _ _ _ _ _).mono ?_
  rintro e w3 ⟨rfl, hb3⟩
  obtain ⟨c3_0, f3_0, z3_0, za3_0, zb3_0, zc3_0⟩ := seen hb3 (w.heap.size) (by first | omega | (simp; done) | (simp; omega))
  obtain ⟨c3_1, f3_1, z3_1, za3_1, zb3_1, zc3_1⟩ := seen hb3 (w.heap.size + 1) (by first | omega | (simp; done) | (simp; omega))
  obtain ⟨c3_2, f3_2, z3_2, za3_2, zb3_2, zc3_2⟩ := seen hb3 (w.heap.size + 1 + 1) (by first | omega | (simp; done) | (simp; omega))
  obtain ⟨c3_3, f3_3, z3_3, za3_3, zb3_3, zc3_3⟩ := seen hb3 (w2.heap.size) (by first | omega | (simp; done) | (simp; omega))
  rw [G0.out]
  go_wp2_with (fail)
  refine (open_all _ _ _ _ _ _ _ _ _ _).mono ?_
  rintro e w4 ⟨rfl, hb4⟩
  rw [G1.out]
  go_wp2_with (fail)
  go_ret
  refine ⟨rfl, ?_⟩
  repeat (first | exact Below.refl _ _ | refine bs_step ?_ (by assumption) | refine bs_alloc ?_ _ | refine bs_drew ?_ | refine bs_set ?_ _ (by simp; omega) | refine bs_drewN ?_ _)
set_option maxHeartbeats 1000000 in
set_option maxRecDepth 100000 in
theorem law3_10 (k fr to a key : Int) (A : Option Addr) (n c : Nat) (x y x2 y2 asn : Int) (w : World) (hn : n ≤ 6000) (hs : sealOk a x y) (he : a ≠ asn) (hb : asn < 0 ∨ 1000000000 < asn) : Calls Try.prog 5 #[.agg #[.int .i64 k, .int .i64 fr, .int .i64 to, .int .i64 a, .int .i64 key, .slice A n c], .agg #[.int .i64 x, .int .i64 y], .agg #[.int .i64 x2, .int .i64 y2], .int .i64 asn] w fun e w' => e = .returned (.bool true) ∧ Below w.heap.size w w' := by
  have h' : decide ((6000 : Int) < (n : Int)) = false := decide_eq_false (by omega)
  clear hn
  have e1 : (asn == a) = false := beq_eq_false_iff_ne.2 (fun h => he h.symm)
  have G0 := Lib.hid (show openE a key x2 y2 asn = 1 from openE_ne he hb)
  have G1 := Lib.hid (show openE a (a / 2000 + 1) x2 y2 asn = 1 from openE_ne he hb)
  clear he hb
  go_enter Try.func5, Try.ntmps5
  go_wp2_with (fail)
  refine (head_true _).mono ?_
  rintro e w1 ⟨rfl, hb1⟩
  obtain ⟨c1_0, f1_0, z1_0, za1_0, zb1_0, zc1_0⟩ := seen hb1 (w.heap.size) (by first | omega | (simp; done) | (simp; omega))
  obtain ⟨c1_1, f1_1, z1_1, za1_1, zb1_1, zc1_1⟩ := seen hb1 (w.heap.size + 1) (by first | omega | (simp; done) | (simp; omega))
  obtain ⟨c1_2, f1_2, z1_2, za1_2, zb1_2, zc1_2⟩ := seen hb1 (w.heap.size + 1 + 1) (by first | omega | (simp; done) | (simp; omega))
  go_wp2_with (fail)
  refine (seal_ok _ _ _ _ _ _ _ _ _ _ hs _).mono ?_
  rintro e w2 ⟨rfl, hb2⟩
  obtain ⟨c2_0, f2_0, z2_0, za2_0, zb2_0, zc2_0⟩ := seen hb2 (w.heap.size) (by first | omega | (simp; done) | (simp; omega))
  obtain ⟨c2_1, f2_1, z2_1, za2_1, zb2_1, zc2_1⟩ := seen hb2 (w.heap.size + 1) (by first | omega | (simp; done) | (simp; omega))
  obtain ⟨c2_2, f2_2, z2_2, za2_2, zb2_2, zc2_2⟩ := seen hb2 (w.heap.size + 1 + 1) (by first | omega | (simp; done) | (simp; omega))
  go_wp2_with (fail)
  refine (open_all _ _ _ _ _ _ _ _ _ _).mono ?_
  rintro e w3 ⟨rfl, hb3⟩
  obtain ⟨c3_0, f3_0, z3_0, za3_0, zb3_0, zc3_0⟩ := seen hb3 (w.heap.size) (by first | omega | (simp; done) | (simp; omega))
  obtain ⟨c3_1, f3_1, z3_1, za3_1, zb3_1, zc3_1⟩ := seen hb3 (w.heap.size + 1) (by first | omega | (simp; done) | (simp; omega))
  obtain ⟨c3_2, f3_2, z3_2, za3_2, zb3_2, zc3_2⟩ := seen hb3 (w.heap.size + 1 + 1) (by first | omega | (simp; done) | (simp; omega))
  obtain ⟨c3_3, f3_3, z3_3, za3_3, zb3_3, zc3_3⟩ := seen hb3 (w2.heap.size) (by first | omega | (simp; done) | (simp; omega))
  rw [G0.out]
  go_wp2_with (fail)
  refine (open_all _ _ _ _ _ _ _ _ _ _).mono ?_
  rintro e w4 ⟨rfl, hb4⟩
  rw [G1.out]
  go_wp2_with (fail)
  go_ret
  refine ⟨rfl, ?_⟩
  repeat (first | exact Below.refl _ _ | refine bs_step ?_ (by assumption) | refine bs_alloc ?_ _ | refine bs_drew ?_ | refine bs_set ?_ _ (by simp; omega) | refine bs_drewN ?_ _)
set_option maxHeartbeats 1000000 in
set_option maxRecDepth 100000 in
theorem law3_01 (k fr to a key : Int) (A : Option Addr) (n c : Nat) (x y x2 y2 asn : Int) (w : World) (hn : n ≤ 6000) (hs : ¬ sealOk a x y) (he : a ≠ asn) (hb : 0 ≤ asn ∧ asn ≤ 1000000000) : Calls Try.prog 5 #[.agg #[.int .i64 k, .int .i64 fr, .int .i64 to, .int .i64 a, .int .i64 key, .slice A n c], .agg #[.int .i64 x, .int .i64 y], .agg #[.int .i64 x2, .int .i64 y2], .int .i64 asn] w fun e w' => e = .returned (.bool true) ∧ Below w.heap.size w w' := by
  have h' : decide ((6000 : Int) < (n : Int)) = false := decide_eq_false (by omega)
  clear hn
  have e1 : (asn == a) = false := beq_eq_false_iff_ne.2 (fun h => he h.symm)
  have e2 := seal_bad' a
  have G0 := Lib.hid (show openE a key x2 y2 asn = 14 from openE_ne' he hb.1 hb.2)
  have G1 := Lib.hid (show openE a (a / 2000 + 1) x2 y2 asn = 14 from openE_ne' he hb.1 hb.2)
  clear he hb
  go_enter Try.func5, Try.ntmps5
  go_wp2_with (fail)
  refine (head_true _).mono ?_
  rintro e w1 ⟨rfl, hb1⟩
  obtain ⟨c1_0, f1_0, z1_0, za1_0, zb1_0, zc1_0⟩ := seen hb1 (w.heap.size) (by first | omega | (simp; done) | (simp; omega))
  obtain ⟨c1_1, f1_1, z1_1, za1_1, zb1_1, zc1_1⟩ := seen hb1 (w.heap.size + 1) (by first | omega | (simp; done) | (simp; omega))
  obtain ⟨c1_2, f1_2, z1_2, za1_2, zb1_2, zc1_2⟩ := seen hb1 (w.heap.size + 1 + 1) (by first | omega | (simp; done) | (simp; omega))
  go_wp2_with (fail)
  refine (seal_no _ _ _ _ _ _ _ _ _ _ hs _).mono ?_
  rintro e w2 ⟨rfl, hb2⟩
  obtain ⟨c2_0, f2_0, z2_0, za2_0, zb2_0, zc2_0⟩ := seen hb2 (w.heap.size) (by first | omega | (simp; done) | (simp; omega))
  obtain ⟨c2_1, f2_1, z2_1, za2_1, zb2_1, zc2_1⟩ := seen hb2 (w.heap.size + 1) (by first | omega | (simp; done) | (simp; omega))
  obtain ⟨c2_2, f2_2, z2_2, za2_2, zb2_2, zc2_2⟩ := seen hb2 (w.heap.size + 1 + 1) (by first | omega | (simp; done) | (simp; omega))
  go_wp2_with (fail)
  refine (open_all _ _ _ _ _ _ _ _ _ _).mono ?_
  rintro e w3 ⟨rfl, hb3⟩
  obtain ⟨c3_0, f3_0, z3_0, za3_0, zb3_0, zc3_0⟩ := seen hb3 (w.heap.size) (by first | omega | (simp; done) | (simp; omega))
  obtain ⟨c3_1, f3_1, z3_1, za3_1, zb3_1, zc3_1⟩ := seen hb3 (w.heap.size + 1) (by first | omega | (simp; done) | (simp; omega))
  obtain ⟨c3_2, f3_2, z3_2, za3_2, zb3_2, zc3_2⟩ := seen hb3 (w.heap.size + 1 + 1) (by first | omega | (simp; done) | (simp; omega))
  obtain ⟨c3_3, f3_3, z3_3, za3_3, zb3_3, zc3_3⟩ := seen hb3 (w2.heap.size) (by first | omega | (simp; done) | (simp; omega))
  rw [G0.out]
  go_wp2_with (fail)
  go_ret
  refine ⟨rfl, ?_⟩
  repeat (first | exact Below.refl _ _ | refine bs_step ?_ (by assumption) | refine bs_alloc ?_ _ | refine bs_drew ?_ | refine bs_set ?_ _ (by simp; omega) | refine bs_drewN ?_ _)
set_option maxHeartbeats 1000000 in
set_option maxRecDepth 100000 in
theorem law3_00 (k fr to a key : Int) (A : Option Addr) (n c : Nat) (x y x2 y2 asn : Int) (w : World) (hn : n ≤ 6000) (hs : ¬ sealOk a x y) (he : a ≠ asn) (hb : asn < 0 ∨ 1000000000 < asn) : Calls Try.prog 5 #[.agg #[.int .i64 k, .int .i64 fr, .int .i64 to, .int .i64 a, .int .i64 key, .slice A n c], .agg #[.int .i64 x, .int .i64 y], .agg #[.int .i64 x2, .int .i64 y2], .int .i64 asn] w fun e w' => e = .returned (.bool true) ∧ Below w.heap.size w w' := by
  have h' : decide ((6000 : Int) < (n : Int)) = false := decide_eq_false (by omega)
  clear hn
  have e1 : (asn == a) = false := beq_eq_false_iff_ne.2 (fun h => he h.symm)
  have e2 := seal_bad' a
  have G0 := Lib.hid (show openE a key x2 y2 asn = 1 from openE_ne he hb)
  have G1 := Lib.hid (show openE a (a / 2000 + 1) x2 y2 asn = 1 from openE_ne he hb)
  clear he hb
  go_enter Try.func5, Try.ntmps5
  go_wp2_with (fail)
  refine (head_true _).mono ?_
  rintro e w1 ⟨rfl, hb1⟩
  obtain ⟨c1_0, f1_0, z1_0, za1_0, zb1_0, zc1_0⟩ := seen hb1 (w.heap.size) (by first | omega | (simp; done) | (simp; omega))
  obtain ⟨c1_1, f1_1, z1_1, za1_1, zb1_1, zc1_1⟩ := seen hb1 (w.heap.size + 1) (by first | omega | (simp; done) | (simp; omega))
  obtain ⟨c1_2, f1_2, z1_2, za1_2, zb1_2, zc1_2⟩ := seen hb1 (w.heap.size + 1 + 1) (by first | omega | (simp; done) | (simp; omega))
  go_wp2_with (fail)
  refine (seal_no _ _ _ _ _ _ _ _ _ _ hs _).mono ?_
  rintro e w2 ⟨rfl, hb2⟩
  obtain ⟨c2_0, f2_0, z2_0, za2_0, zb2_0, zc2_0⟩ := seen hb2 (w.heap.size) (by first | omega | (simp; done) | (simp; omega))
  obtain ⟨c2_1, f2_1, z2_1, za2_1, zb2_1, zc2_1⟩ := seen hb2 (w.heap.size + 1) (by first | omega | (simp; done) | (simp; omega))
  obtain ⟨c2_2, f2_2, z2_2, za2_2, zb2_2, zc2_2⟩ := seen hb2 (w.heap.size + 1 + 1) (by first | omega | (simp; done) | (simp; omega))
  go_wp2_with (fail)
  refine (open_all _ _ _ _ _ _ _ _ _ _).mono ?_
  rintro e w3 ⟨rfl, hb3⟩
  obtain ⟨c3_0, f3_0, z3_0, za3_0, zb3_0, zc3_0⟩ := seen hb3 (w.heap.size) (by first | omega | (simp; done) | (simp; omega))
  obtain ⟨c3_1, f3_1, z3_1, za3_1, zb3_1, zc3_1⟩ := seen hb3 (w.heap.size + 1) (by first | omega | (simp; done) | (simp; omega))
  obtain ⟨c3_2, f3_2, z3_2, za3_2, zb3_2, zc3_2⟩ := seen hb3 (w.heap.size + 1 + 1) (by first | omega | (simp; done) | (simp; omega))
  obtain ⟨c3_3, f3_3, z3_3, za3_3, zb3_3, zc3_3⟩ := seen hb3 (w2.heap.size) (by first | omega | (simp; done) | (simp; omega))
  rw [G0.out]
  go_wp2_with (fail)
  go_ret
  refine ⟨rfl, ?_⟩
  repeat (first | exact Below.refl _ _ | refine bs_step ?_ (by assumption) | refine bs_alloc ?_ _ | refine bs_drew ?_ | refine bs_set ?_ _ (by simp; omega) | refine bs_drewN ?_ _)
theorem law3_all (k fr to a key : Int) (A : Option Addr) (n c : Nat) (x y x2 y2 asn : Int) (w : World) : Calls Try.prog 5 #[.agg #[.int .i64 k, .int .i64 fr, .int .i64 to, .int .i64 a, .int .i64 key, .slice A n c], .agg #[.int .i64 x, .int .i64 y], .agg #[.int .i64 x2, .int .i64 y2], .int .i64 asn] w fun e w' => e = .returned (.bool true) ∧ Below w.heap.size w w' := by
  by_cases hn : 6000 < n
  · exact law3_long _ _ _ _ _ _ _ _ _ _ _ _ _ _ hn
  by_cases he : asn = a
  · exact law3_eq _ _ _ _ _ _ _ _ _ _ _ _ _ _ (by omega) he
  by_cases hs : sealOk a x y
  · by_cases hb : 0 ≤ asn ∧ asn ≤ 1000000000
    · exact law3_11 _ _ _ _ _ _ _ _ _ _ _ _ _ _ (by omega) hs (fun h => he h.symm) hb
    · exact law3_10 _ _ _ _ _ _ _ _ _ _ _ _ _ _ (by omega) hs (fun h => he h.symm) (by omega)
  · by_cases hb : 0 ≤ asn ∧ asn ≤ 1000000000
    · exact law3_01 _ _ _ _ _ _ _ _ _ _ _ _ _ _ (by omega) hs (fun h => he h.symm) hb
    · exact law3_00 _ _ _ _ _ _ _ _ _ _ _ _ _ _ (by omega) hs (fun h => he h.symm) (by omega)
end Go.Proofs.Ythekjpipngcmnaa
