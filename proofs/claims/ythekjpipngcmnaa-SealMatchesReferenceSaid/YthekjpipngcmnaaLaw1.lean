/-
  SealMatchesReference: the walks of the law on package seal, for every input: seal.Key, Own, Seal and Open return what the reference returns, for all frames with bodies of up to 6000 bytes, rings, slots and nodes. No condition.
-/
import Derived.Test.YthekjpipngcmnaaSealH
namespace Go.Proofs.Ythekjpipngcmnaa
open Go.RowKit
set_option linter.unusedVariables false
set_option linter.unusedSimpArgs false
set_option maxRecDepth 100000 in
theorem law1_long (k fr to a key : Int) (A : Option Addr) (n c : Nat) (x y asn id : Int) (w : World) (hn : 6000 < n) : Calls Try.prog 3 #[.agg #[.int .i64 k, .int .i64 fr, .int .i64 to, .int .i64 a, .int .i64 key, .slice A n c], .agg #[.int .i64 x, .int .i64 y], .int .i64 asn, .int .i64 id] w fun e w' => e = .returned (.bool true) ∧ Below w.heap.size w w' := by
  have h' : decide ((6000 : Int) < (n : Int)) = true := decide_eq_true (by omega)
  clear hn
  go_enter Try.func3, Try.ntmps3
  go_wp2_with (fail)
  refine (head_true _).mono ?_
  rintro e w1 ⟨rfl, hb1⟩
  obtain ⟨c1_0, f1_0, z1_0, za1_0, zb1_0, zc1_0⟩ := seen hb1 (w.heap.size) (by first | omega | (simp; done) | (simp; omega))
  obtain ⟨c1_1, f1_1, z1_1, za1_1, zb1_1, zc1_1⟩ := seen hb1 (w.heap.size + 1) (by first | omega | (simp; done) | (simp; omega))
  go_wp2_with (fail)
  go_ret
  refine ⟨rfl, ?_⟩
  repeat (first | exact Below.refl _ _ | refine bs_step ?_ (by assumption) | refine bs_alloc ?_ _ | refine bs_drew ?_ | refine bs_set ?_ _ ?_ | refine bs_drewN ?_ _)
set_option maxHeartbeats 1000000 in
set_option maxRecDepth 100000 in
theorem law1_ok (k fr to a key : Int) (A : Option Addr) (n c : Nat) (x y asn id : Int) (w : World) (hB : Bytes w A n) (hn : n ≤ 6000) (hs : sealOk a x y) : Calls Try.prog 3 #[.agg #[.int .i64 k, .int .i64 fr, .int .i64 to, .int .i64 a, .int .i64 key, .slice A n c], .agg #[.int .i64 x, .int .i64 y], .int .i64 asn, .int .i64 id] w fun e w' => e = .returned (.bool true) ∧ Below w.heap.size w w' := by
  have h' : decide ((6000 : Int) < (n : Int)) = false := decide_eq_false (by omega)
  clear hn
  have hB0 := Lib.hid hB
  clear hB
  go_enter Try.func3, Try.ntmps3
  go_wp2_with (fail)
  refine (head_true _).mono ?_
  rintro e w1 ⟨rfl, hb1⟩
  obtain ⟨c1_0, f1_0, z1_0, za1_0, zb1_0, zc1_0⟩ := seen hb1 (w.heap.size) (by first | omega | (simp; done) | (simp; omega))
  obtain ⟨c1_1, f1_1, z1_1, za1_1, zb1_1, zc1_1⟩ := seen hb1 (w.heap.size + 1) (by first | omega | (simp; done) | (simp; omega))
  go_wp2_with (first | (go_at_call 10; refine (key_all _ _).mono ?_; rintro e w' ⟨rfl, rfl⟩) | (go_at_call 11; refine (rkey_all _ _).mono ?_; rintro e w' ⟨rfl, rfl⟩) | (go_at_call 12; refine (own_all _ _).mono ?_; rintro e w' ⟨rfl, rfl⟩) | (go_at_call 13; refine (rown_all _ _).mono ?_; rintro e w' ⟨rfl, rfl⟩))
  refine (seal_ok _ _ _ _ _ _ _ _ _ _ hs _).mono ?_
  rintro e w2 ⟨rfl, hb2⟩
  obtain ⟨c2_0, f2_0, z2_0, za2_0, zb2_0, zc2_0⟩ := seen hb2 (w.heap.size) (by first | omega | (simp; done) | (simp; omega))
  obtain ⟨c2_1, f2_1, z2_1, za2_1, zb2_1, zc2_1⟩ := seen hb2 (w.heap.size + 1) (by first | omega | (simp; done) | (simp; omega))
  go_wp2_with (fail)
  refine (rseal_ok _ _ _ _ _ _ _ _ _ _ hs _).mono ?_
  rintro e w3 ⟨rfl, hb3⟩
  obtain ⟨c3_0, f3_0, z3_0, za3_0, zb3_0, zc3_0⟩ := seen hb3 (w.heap.size) (by first | omega | (simp; done) | (simp; omega))
  obtain ⟨c3_1, f3_1, z3_1, za3_1, zb3_1, zc3_1⟩ := seen hb3 (w.heap.size + 1) (by first | omega | (simp; done) | (simp; omega))
  obtain ⟨c3_2, f3_2, z3_2, za3_2, zb3_2, zc3_2⟩ := seen hb3 (w2.heap.size) (by first | omega | (simp; done) | (simp; omega))
  go_wp2_with (fail)
  have hB3 : Hid (Bytes w3 A n) := ((((hB0.out.alloc _).alloc _).below hb1).below hb2 |>.alloc _).below hb3
  go_region_held3 (fun w' => w'.cell? ⟨w2.heap.size, 0, none⟩ = some (.int .i64 k) ∧ w'.cell? ⟨w2.heap.size, 1, none⟩ = some (.int .i64 fr) ∧ w'.cell? ⟨w2.heap.size, 2, none⟩ = some (.int .i64 to) ∧ w'.cell? ⟨w2.heap.size, 3, none⟩ = some (.int .i64 a) ∧ w'.cell? ⟨w2.heap.size, 4, none⟩ = some (.int .i64 (a / 2000 + 1)) ∧ w'.cell? ⟨w2.heap.size, 5, none⟩ = some (.slice A n c) ∧ w'.cell? ⟨w3.heap.size, 0, none⟩ = some (.int .i64 k) ∧ w'.cell? ⟨w3.heap.size, 1, none⟩ = some (.int .i64 fr) ∧ w'.cell? ⟨w3.heap.size, 2, none⟩ = some (.int .i64 to) ∧ w'.cell? ⟨w3.heap.size, 3, none⟩ = some (.int .i64 a) ∧ w'.cell? ⟨w3.heap.size, 4, none⟩ = some (.int .i64 (a / 2000 + 1)) ∧ w'.cell? ⟨w3.heap.size, 5, none⟩ = some (.slice A n c) ∧ w'.cell? ⟨w.heap.size, 0, none⟩ = some (.int .i64 k) ∧ w'.cell? ⟨w.heap.size, 1, none⟩ = some (.int .i64 fr) ∧ w'.cell? ⟨w.heap.size, 2, none⟩ = some (.int .i64 to) ∧ w'.cell? ⟨w.heap.size, 3, none⟩ = some (.int .i64 a) ∧ w'.cell? ⟨w.heap.size, 4, none⟩ = some (.int .i64 key) ∧ w'.cell? ⟨w.heap.size, 5, none⟩ = some (.slice A n c) ∧ w'.cell? ⟨w.heap.size + 1, 0, none⟩ = some (.int .i64 x) ∧ w'.cell? ⟨w.heap.size + 1, 1, none⟩ = some (.int .i64 y)) (first | (simp [go_sem, *]; done) | (refine ⟨cell_later hb ?_, cell_later hb ?_, cell_later hb ?_, cell_later hb ?_, cell_later hb ?_, cell_later hb ?_, cell_later hb ?_, cell_later hb ?_, cell_later hb ?_, cell_later hb ?_, cell_later hb ?_, cell_later hb ?_, cell_later hb ?_, cell_later hb ?_, cell_later hb ?_, cell_later hb ?_, cell_later hb ?_, cell_later hb ?_, cell_later hb ?_, cell_later hb ?_⟩ <;> (simp [go_sem, *]; done))) (first | (go_at_call 16; refine (sameFrame_refl _ _ _ _ _ _ _ _ _ ?sB).mono ?_; (case sB => exact hB3.out.alloc _); rintro e w' ⟨rfl, hb⟩) | (go_at_call 17; refine (open_all _ _ _ _ _ _ _ _ _ _).mono ?_; rintro e w' ⟨rfl, hb⟩) | (go_at_call 18; refine (ropen_all _ _ _ _ _ _ _ _ _ _ _ _).mono ?_; rintro e w' ⟨rfl, hb⟩))
  go_wp2_with (fail)
  go_ret
  refine ⟨rfl, ?_⟩
  repeat (first | exact Below.refl _ _ | refine bs_step ?_ (by assumption) | refine bs_alloc ?_ _ | refine bs_drew ?_ | refine bs_set ?_ _ ?_ | refine bs_drewN ?_ _)
set_option maxHeartbeats 1000000 in
set_option maxRecDepth 100000 in
theorem law1_no (k fr to a key : Int) (A : Option Addr) (n c : Nat) (x y asn id : Int) (w : World) (hB : Bytes w A n) (hn : n ≤ 6000) (hs : ¬ sealOk a x y) : Calls Try.prog 3 #[.agg #[.int .i64 k, .int .i64 fr, .int .i64 to, .int .i64 a, .int .i64 key, .slice A n c], .agg #[.int .i64 x, .int .i64 y], .int .i64 asn, .int .i64 id] w fun e w' => e = .returned (.bool true) ∧ Below w.heap.size w w' := by
  have h' : decide ((6000 : Int) < (n : Int)) = false := decide_eq_false (by omega)
  clear hn
  have hB0 := Lib.hid hB
  clear hB
  go_enter Try.func3, Try.ntmps3
  go_wp2_with (fail)
  refine (head_true _).mono ?_
  rintro e w1 ⟨rfl, hb1⟩
  obtain ⟨c1_0, f1_0, z1_0, za1_0, zb1_0, zc1_0⟩ := seen hb1 (w.heap.size) (by first | omega | (simp; done) | (simp; omega))
  obtain ⟨c1_1, f1_1, z1_1, za1_1, zb1_1, zc1_1⟩ := seen hb1 (w.heap.size + 1) (by first | omega | (simp; done) | (simp; omega))
  go_wp2_with (first | (go_at_call 10; refine (key_all _ _).mono ?_; rintro e w' ⟨rfl, rfl⟩) | (go_at_call 11; refine (rkey_all _ _).mono ?_; rintro e w' ⟨rfl, rfl⟩) | (go_at_call 12; refine (own_all _ _).mono ?_; rintro e w' ⟨rfl, rfl⟩) | (go_at_call 13; refine (rown_all _ _).mono ?_; rintro e w' ⟨rfl, rfl⟩))
  refine (seal_no _ _ _ _ _ _ _ _ _ _ hs _).mono ?_
  rintro e w2 ⟨rfl, hb2⟩
  obtain ⟨c2_0, f2_0, z2_0, za2_0, zb2_0, zc2_0⟩ := seen hb2 (w.heap.size) (by first | omega | (simp; done) | (simp; omega))
  obtain ⟨c2_1, f2_1, z2_1, za2_1, zb2_1, zc2_1⟩ := seen hb2 (w.heap.size + 1) (by first | omega | (simp; done) | (simp; omega))
  go_wp2_with (fail)
  refine (rseal_no _ _ _ _ _ _ _ _ _ _ hs _).mono ?_
  rintro e w3 ⟨rfl, hb3⟩
  obtain ⟨c3_0, f3_0, z3_0, za3_0, zb3_0, zc3_0⟩ := seen hb3 (w.heap.size) (by first | omega | (simp; done) | (simp; omega))
  obtain ⟨c3_1, f3_1, z3_1, za3_1, zb3_1, zc3_1⟩ := seen hb3 (w.heap.size + 1) (by first | omega | (simp; done) | (simp; omega))
  obtain ⟨c3_2, f3_2, z3_2, za3_2, zb3_2, zc3_2⟩ := seen hb3 (w2.heap.size) (by first | omega | (simp; done) | (simp; omega))
  go_wp2_with (fail)
  have hB3 : Hid (Bytes w3 A n) := ((((hB0.out.alloc _).alloc _).below hb1).below hb2 |>.alloc _).below hb3
  go_region_held3 (fun w' => w'.cell? ⟨w2.heap.size, 0, none⟩ = some (.int .i64 0) ∧ w'.cell? ⟨w2.heap.size, 1, none⟩ = some (.int .i64 0) ∧ w'.cell? ⟨w2.heap.size, 2, none⟩ = some (.int .i64 0) ∧ w'.cell? ⟨w2.heap.size, 3, none⟩ = some (.int .i64 0) ∧ w'.cell? ⟨w2.heap.size, 4, none⟩ = some (.int .i64 0) ∧ w'.cell? ⟨w2.heap.size, 5, none⟩ = some (.slice none 0 0) ∧ w'.cell? ⟨w3.heap.size, 0, none⟩ = some (.int .i64 0) ∧ w'.cell? ⟨w3.heap.size, 1, none⟩ = some (.int .i64 0) ∧ w'.cell? ⟨w3.heap.size, 2, none⟩ = some (.int .i64 0) ∧ w'.cell? ⟨w3.heap.size, 3, none⟩ = some (.int .i64 0) ∧ w'.cell? ⟨w3.heap.size, 4, none⟩ = some (.int .i64 0) ∧ w'.cell? ⟨w3.heap.size, 5, none⟩ = some (.slice none 0 0) ∧ w'.cell? ⟨w.heap.size, 0, none⟩ = some (.int .i64 k) ∧ w'.cell? ⟨w.heap.size, 1, none⟩ = some (.int .i64 fr) ∧ w'.cell? ⟨w.heap.size, 2, none⟩ = some (.int .i64 to) ∧ w'.cell? ⟨w.heap.size, 3, none⟩ = some (.int .i64 a) ∧ w'.cell? ⟨w.heap.size, 4, none⟩ = some (.int .i64 key) ∧ w'.cell? ⟨w.heap.size, 5, none⟩ = some (.slice A n c) ∧ w'.cell? ⟨w.heap.size + 1, 0, none⟩ = some (.int .i64 x) ∧ w'.cell? ⟨w.heap.size + 1, 1, none⟩ = some (.int .i64 y)) (first | (simp [go_sem, *]; done) | (refine ⟨cell_later hb ?_, cell_later hb ?_, cell_later hb ?_, cell_later hb ?_, cell_later hb ?_, cell_later hb ?_, cell_later hb ?_, cell_later hb ?_, cell_later hb ?_, cell_later hb ?_, cell_later hb ?_, cell_later hb ?_, cell_later hb ?_, cell_later hb ?_, cell_later hb ?_, cell_later hb ?_, cell_later hb ?_, cell_later hb ?_, cell_later hb ?_, cell_later hb ?_⟩ <;> (simp [go_sem, *]; done))) (first | (go_at_call 16; refine (sameFrame_refl _ _ _ _ _ _ _ _ _ ?sB).mono ?_; (case sB => exact Bytes.nil _); rintro e w' ⟨rfl, hb⟩) | (go_at_call 17; refine (open_all _ _ _ _ _ _ _ _ _ _).mono ?_; rintro e w' ⟨rfl, hb⟩) | (go_at_call 18; refine (ropen_all _ _ _ _ _ _ _ _ _ _ _ _).mono ?_; rintro e w' ⟨rfl, hb⟩))
  go_wp2_with (fail)
  go_ret
  refine ⟨rfl, ?_⟩
  repeat (first | exact Below.refl _ _ | refine bs_step ?_ (by assumption) | refine bs_alloc ?_ _ | refine bs_drew ?_ | refine bs_set ?_ _ ?_ | refine bs_drewN ?_ _)
theorem law1_all (k fr to a key : Int) (A : Option Addr) (n c : Nat) (x y asn id : Int) (w : World) (hB : Bytes w A n) : Calls Try.prog 3 #[.agg #[.int .i64 k, .int .i64 fr, .int .i64 to, .int .i64 a, .int .i64 key, .slice A n c], .agg #[.int .i64 x, .int .i64 y], .int .i64 asn, .int .i64 id] w fun e w' => e = .returned (.bool true) ∧ Below w.heap.size w w' := by
  by_cases hn : 6000 < n
  · exact law1_long _ _ _ _ _ _ _ _ _ _ _ _ _ hn
  by_cases hs : sealOk a x y
  · exact law1_ok _ _ _ _ _ _ _ _ _ _ _ _ _ hB (by omega) hs
  · exact law1_no _ _ _ _ _ _ _ _ _ _ _ _ _ hB (by omega) hs
end Go.Proofs.Ythekjpipngcmnaa
