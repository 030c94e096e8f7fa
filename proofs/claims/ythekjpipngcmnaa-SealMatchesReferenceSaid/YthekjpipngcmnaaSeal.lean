/-
  The walks of package seal: what Key, Own and Open answer, each way by itself.
-/
import Derived.Test.YthekjpipngcmnaaProg
import Derived.Test.YthekjpipngcmnaaBase
import Derived.WalkLawsBesides
import Derived.BigQuiet
import Derived.Deep.RegionHeld3
import Derived.Laws.EntriesVeiled
import Derived.RowKit3
namespace Go.Proofs.Ythekjpipngcmnaa
open Go.RowKit
set_option linter.unusedVariables false
set_option linter.unusedSimpArgs false
theorem of_any (a : Int) (h0 : 0 ≤ a) (h1 : a ≤ 1000000000) (w : World) : Calls Try.prog 23 #[.int .i64 a] w fun e w' => e = .returned (.int .i64 (a / 2000)) ∧ w = w' := by
  go_enter Try.func23, Try.ntmps23
  go_wp2
  go_ret
  exact ⟨rfl, rfl⟩
theorem of_neg (a : Int) (w : World) : Calls Try.prog 23 #[.int .i64 a] w fun e w' => (∃ n : Int, e = .returned (.int .i64 n)) ∧ w = w' := by
  go_enter Try.func23, Try.ntmps23
  go_wp2
  go_ret
  exact ⟨⟨_, rfl⟩, rfl⟩
theorem slot_yes (a : Int) (h0 : 0 ≤ a) (h1 : a ≤ 1000000000) (w : World) : Calls Try.prog 24 #[.int .i64 a] w fun e w' => e = .returned (.bool true) ∧ w = w' := by
  go_enter Try.func24, Try.ntmps24
  go_wp2
  go_ret
  exact ⟨by simp, rfl⟩
theorem slot_no (a : Int) (h : a < 0 ∨ 1000000000 < a) (w : World) : Calls Try.prog 24 #[.int .i64 a] w fun e w' => e = .returned (.bool false) ∧ w = w' := by
  rcases h with h | h
  · go_enter Try.func24, Try.ntmps24
    go_wp2
    go_ret
    exact ⟨rfl, rfl⟩
  · have h0 : 0 ≤ a := by omega
    have h1 : decide (a ≤ 1000000000) = false := decide_eq_false (by omega)
    go_enter Try.func24, Try.ntmps24
    go_wp2
    go_ret
    exact ⟨rfl, rfl⟩
theorem num_any (a : Int) (h0 : 0 ≤ a) (h1 : a ≤ 1000000000) (w : World) : Calls Try.prog 32 #[.int .i64 a] w fun e w' => e = .returned (.int .i64 (a + 1)) ∧ w = w' := by
  go_enter Try.func32, Try.ntmps32
  go_wp2
  go_ret
  exact ⟨rfl, rfl⟩
theorem onum_any (a : Int) (h0 : 0 ≤ a) (h1 : a ≤ 1000000000) (w : World) : Calls Try.prog 49 #[.int .i64 a] w fun e w' => e = .returned (.int .i64 (1000000 + a)) ∧ w = w' := by
  go_enter Try.func49, Try.ntmps49
  go_wp2
  go_ret
  exact ⟨rfl, rfl⟩
theorem meth_epoch (a : Int) (w : World) : (method 172 44 (.int .i64 a) "slotmesh/seal.number").run Try.prog w = .ok (32, .int .i64 a) w := by kernel_rfl
theorem meth_owner (a : Int) (w : World) : (method 172 47 (.int .i64 a) "slotmesh/seal.number").run Try.prog w = .ok (49, .int .i64 a) w := by kernel_rfl
theorem checked_epoch (a : Int) (h0 : 0 ≤ a) (h1 : a ≤ 1000000000) (w : World) : Calls Try.prog 22 #[.iface 44 (.int .i64 a), .bool true] w fun e w' => e = .returned (.tuple #[.int .i64 (a + 1), .int .i64 0]) ∧ w = w' := by
  have hm := meth_epoch a
  go_enter Try.func22, Try.ntmps22
  go_wp2_with (go_at_call 32; refine (num_any _ h0 h1 _).mono ?_; rintro e w' ⟨rfl, rfl⟩)
  go_ret2
  exact ⟨rfl, rfl⟩
theorem checked_owner (a : Int) (h0 : 0 ≤ a) (h1 : a ≤ 1000000000) (w : World) : Calls Try.prog 22 #[.iface 47 (.int .i64 a), .bool true] w fun e w' => e = .returned (.tuple #[.int .i64 (1000000 + a), .int .i64 0]) ∧ w = w' := by
  have hm := meth_owner a
  go_enter Try.func22, Try.ntmps22
  go_wp2_with (go_at_call 49; refine (onum_any _ h0 h1 _).mono ?_; rintro e w' ⟨rfl, rfl⟩)
  go_ret2
  exact ⟨rfl, rfl⟩
theorem checked_no (v : Value) (w : World) : Calls Try.prog 22 #[v, .bool false] w fun e w' => e = .returned (.tuple #[.int .i64 0, .int .i64 1]) ∧ w = w' := by
  go_enter Try.func22, Try.ntmps22
  go_wp2
  go_ret2
  exact ⟨rfl, rfl⟩
theorem key_yes (a : Int) (h0 : 0 ≤ a) (h1 : a ≤ 1000000000) (w : World) : Calls Try.prog 10 #[.int .i64 a] w fun e w' => e = .returned (.tuple #[.int .i64 (a / 2000 + 1), .int .i64 0]) ∧ w = w' := by
  go_enter Try.func10, Try.ntmps10
  go_wp2_with (first
    | (go_at_call 23; refine (of_any _ h0 h1 _).mono ?_; rintro e w' ⟨rfl, rfl⟩)
    | (go_at_call 24; refine (slot_yes _ h0 h1 _).mono ?_; rintro e w' ⟨rfl, rfl⟩)
    | (go_at_call 22; refine (checked_epoch _ (by omega) (by omega) _).mono ?_; rintro e w' ⟨rfl, rfl⟩))
  go_ret2
  exact ⟨rfl, rfl⟩
theorem key_no (a : Int) (h : a < 0 ∨ 1000000000 < a) (w : World) : Calls Try.prog 10 #[.int .i64 a] w fun e w' => e = .returned (.tuple #[.int .i64 0, .int .i64 1]) ∧ w = w' := by
  go_enter Try.func10, Try.ntmps10
  go_wp2_with (first
    | (go_at_call 23; refine (of_neg _ _).mono ?_; rintro e w' ⟨⟨n, rfl⟩, rfl⟩)
    | (go_at_call 24; refine (slot_no _ h _).mono ?_; rintro e w' ⟨rfl, rfl⟩)
    | (go_at_call 22; refine (checked_no _ _).mono ?_; rintro e w' ⟨rfl, rfl⟩))
  go_ret2
  exact ⟨rfl, rfl⟩
theorem own_yes (a : Int) (h0 : 0 ≤ a) (h1 : a < 60) (w : World) : Calls Try.prog 12 #[.int .i64 a] w fun e w' => e = .returned (.tuple #[.int .i64 (1000000 + a), .int .i64 0]) ∧ w = w' := by
  have h2 : decide (a < 60) = true := decide_eq_true h1
  go_enter Try.func12, Try.ntmps12
  go_wp2_with (first
    | (go_at_call 22; refine (checked_owner _ (by omega) (by omega) _).mono ?_; rintro e w' ⟨rfl, rfl⟩))
  go_ret2
  exact ⟨rfl, rfl⟩
theorem own_no (a : Int) (h : a < 0 ∨ 60 ≤ a) (w : World) : Calls Try.prog 12 #[.int .i64 a] w fun e w' => e = .returned (.tuple #[.int .i64 0, .int .i64 1]) ∧ w = w' := by
  rcases h with h | h
  · go_enter Try.func12, Try.ntmps12
    go_wp2_with (first
    | (go_at_call 22; refine (checked_no _ _).mono ?_; rintro e w' ⟨rfl, rfl⟩))
    go_ret2
    exact ⟨rfl, rfl⟩
  · have h0 : 0 ≤ a := by omega
    have h1 : decide (a < 60) = false := decide_eq_false (by omega)
    go_enter Try.func12, Try.ntmps12
    go_wp2_with (first
    | (go_at_call 22; refine (checked_no _ _).mono ?_; rintro e w' ⟨rfl, rfl⟩))
    go_ret2
    exact ⟨rfl, rfl⟩

theorem unless_yes (n : Int) (w : World) : Calls Try.prog 30 #[.bool true, .int .i64 n] w fun e w' => e = .returned (.int .i64 0) ∧ w = w' := by
  go_enter Try.func30, Try.ntmps30
  go_wp2
  go_ret
  exact ⟨rfl, rfl⟩
theorem unless_no (n : Int) (w : World) : Calls Try.prog 30 #[.bool false, .int .i64 n] w fun e w' => e = .returned (.int .i64 n) ∧ w = w' := by
  go_enter Try.func30, Try.ntmps30
  go_wp2
  go_ret
  exact ⟨rfl, rfl⟩
theorem knows_yes (n x y : Int) (h0 : x ≤ n) (h1 : n < y) (w : World) : Calls Try.prog 26 #[.int .i64 n, .agg #[.int .i64 x, .int .i64 y]] w fun e w' => e = .returned (.bool true) ∧ w.alloc (.cells #[.int .i64 x, .int .i64 y] 26) = w' := by
  have h2 : decide (x ≤ n) = true := decide_eq_true h0
  have h3 : decide (n < y) = true := decide_eq_true h1
  go_enter Try.func26, Try.ntmps26
  go_wp2
  go_ret
  exact ⟨rfl, rfl⟩
theorem o1_yes (A : Nat) (b : Int) (h0 : 0 ≤ b) (h1 : b ≤ 1000000000) (w : World) (hb : w.cell? ⟨A, 0, none⟩ = some (.int .i64 b)) : Calls Try.prog 28 #[.pointer (some ⟨A, 0, none⟩)] w fun e w' => e = .returned (.int .i64 0) ∧ w = w' := by
  go_enter Try.func28, Try.ntmps28
  go_wp2_with (first
    | (go_at_call 10; refine (key_yes _ h0 h1 _).mono ?_; rintro e w' ⟨rfl, rfl⟩))
  go_ret
  exact ⟨rfl, rfl⟩
theorem o2_yes (A B : Nat) (b : Int) (w : World) (ha : w.cell? ⟨A, 3, none⟩ = some (.int .i64 b)) (hb : w.cell? ⟨B, 0, none⟩ = some (.int .i64 b)) : Calls Try.prog 29 #[.pointer (some ⟨A, 0, none⟩), .pointer (some ⟨B, 0, none⟩)] w fun e w' => e = .returned (.int .i64 0) ∧ w = w' := by
  go_enter Try.func29, Try.ntmps29
  go_wp2_with (first
    | (go_at_call 30; refine (unless_yes _ _).mono ?_; rintro e w' ⟨rfl, rfl⟩))
  go_ret
  exact ⟨rfl, rfl⟩
theorem o3_yes (A B C : Nat) (b x y : Int) (h0 : 0 ≤ b) (h1 : b ≤ 1000000000) (h2 : x ≤ b / 2000) (h3 : b / 2000 < y) (w : World) (ha : w.cell? ⟨A, 4, none⟩ = some (.int .i64 (b / 2000 + 1))) (hb : w.cell? ⟨B, 0, none⟩ = some (.int .i64 b)) (hc : w.cell? ⟨C, 0, none⟩ = some (.int .i64 x)) (hd : w.cell? ⟨C, 1, none⟩ = some (.int .i64 y)) : Calls Try.prog 31 #[.pointer (some ⟨A, 0, none⟩), .pointer (some ⟨B, 0, none⟩), .pointer (some ⟨C, 0, none⟩)] w fun e w' => e = .returned (.int .i64 0) ∧ Below w.heap.size w w' := by
  go_enter Try.func31, Try.ntmps31
  go_wp2
  go_region_held3 (fun w' => w'.cell? ⟨A, 4, none⟩ = some (.int .i64 (b / 2000 + 1)) ∧ w'.cell? ⟨B, 0, none⟩ = some (.int .i64 b) ∧ w'.cell? ⟨C, 0, none⟩ = some (.int .i64 x) ∧ w'.cell? ⟨C, 1, none⟩ = some (.int .i64 y)) (first | exact ⟨ha, hb, hc, hd⟩ | exact ⟨cell_more ha, cell_more hb, cell_more hc, cell_more hd⟩)
    (first
      | (go_at_call 30; refine (unless_yes _ _).mono ?_; rintro e w' ⟨rfl, rfl⟩)
      | (go_at_call 23; refine (of_any _ h0 h1 _).mono ?_; rintro e w' ⟨rfl, rfl⟩)
      | (go_at_call 32; refine (num_any _ (by omega) (by omega) _).mono ?_; rintro e w' ⟨rfl, rfl⟩)
      | (go_at_call 26; refine (knows_yes _ _ _ h2 h3 _).mono ?_; rintro e w' ⟨rfl, rfl⟩))
  go_wp2
  go_ret
  exact ⟨rfl, by repeat (first | exact Below.refl _ _ | apply Below.drew | refine Below.alloc ?_ (Nat.le_refl _) _)⟩

theorem knows_no (n x y : Int) (h : n < x ∨ y ≤ n) (w : World) : Calls Try.prog 26 #[.int .i64 n, .agg #[.int .i64 x, .int .i64 y]] w fun e w' => e = .returned (.bool false) ∧ w.alloc (.cells #[.int .i64 x, .int .i64 y] 26) = w' := by
  rcases Int.lt_or_le n x with h' | h'
  · have h2 : decide (x ≤ n) = false := decide_eq_false (by omega)
    go_enter Try.func26, Try.ntmps26
    go_wp2
    go_ret
    exact ⟨rfl, rfl⟩
  · have h2 : decide (x ≤ n) = true := decide_eq_true h'
    have h3 : decide (n < y) = false := decide_eq_false (by omega)
    go_enter Try.func26, Try.ntmps26
    go_wp2
    go_ret
    exact ⟨rfl, rfl⟩
theorem o1_no (A : Nat) (b : Int) (h : b < 0 ∨ 1000000000 < b) (w : World) (hb : w.cell? ⟨A, 0, none⟩ = some (.int .i64 b)) : Calls Try.prog 28 #[.pointer (some ⟨A, 0, none⟩)] w fun e w' => e = .returned (.int .i64 1) ∧ w = w' := by
  go_enter Try.func28, Try.ntmps28
  go_wp2_with (first
    | (go_at_call 10; refine (key_no _ h _).mono ?_; rintro e w' ⟨rfl, rfl⟩))
  go_ret
  exact ⟨rfl, rfl⟩
theorem o2_no (A B : Nat) (a b : Int) (h : a ≠ b) (w : World) (ha : w.cell? ⟨A, 3, none⟩ = some (.int .i64 a)) (hb : w.cell? ⟨B, 0, none⟩ = some (.int .i64 b)) : Calls Try.prog 29 #[.pointer (some ⟨A, 0, none⟩), .pointer (some ⟨B, 0, none⟩)] w fun e w' => e = .returned (.int .i64 14) ∧ w = w' := by
  have h' : (a == b) = false := beq_eq_false_iff_ne.2 h
  clear h
  go_enter Try.func29, Try.ntmps29
  go_wp2_with (first
    | (go_at_call 30; refine (unless_no _ _).mono ?_; rintro e w' ⟨rfl, rfl⟩))
  go_ret
  exact ⟨rfl, rfl⟩
theorem o3_no1 (A B C : Nat) (b x y k : Int) (h0 : 0 ≤ b) (h1 : b ≤ 1000000000) (h2 : k ≠ b / 2000 + 1) (w : World) (ha : w.cell? ⟨A, 4, none⟩ = some (.int .i64 k)) (hb : w.cell? ⟨B, 0, none⟩ = some (.int .i64 b)) (hc : w.cell? ⟨C, 0, none⟩ = some (.int .i64 x)) (hd : w.cell? ⟨C, 1, none⟩ = some (.int .i64 y)) : Calls Try.prog 31 #[.pointer (some ⟨A, 0, none⟩), .pointer (some ⟨B, 0, none⟩), .pointer (some ⟨C, 0, none⟩)] w fun e w' => e = .returned (.int .i64 13) ∧ Below w.heap.size w w' := by
  have h' : (k == b / 2000 + 1) = false := beq_eq_false_iff_ne.2 h2
  clear h2
  go_enter Try.func31, Try.ntmps31
  go_wp2
  go_quiet ((first | (go_at_call 30; exact quiet_left (unless_no _ _)) | (go_at_call 23; exact quiet_left (of_any _ h0 h1 _)) | (go_at_call 32; exact quiet_left (num_any _ (by omega) (by omega) _))))
  go_wp2
  go_ret
  exact ⟨rfl, below_drewN' (Below.refl _ _) _⟩
theorem o3_no2 (A B C : Nat) (b x y : Int) (h0 : 0 ≤ b) (h1 : b ≤ 1000000000) (h : b / 2000 < x ∨ y ≤ b / 2000) (w : World) (ha : w.cell? ⟨A, 4, none⟩ = some (.int .i64 (b / 2000 + 1))) (hb : w.cell? ⟨B, 0, none⟩ = some (.int .i64 b)) (hc : w.cell? ⟨C, 0, none⟩ = some (.int .i64 x)) (hd : w.cell? ⟨C, 1, none⟩ = some (.int .i64 y)) : Calls Try.prog 31 #[.pointer (some ⟨A, 0, none⟩), .pointer (some ⟨B, 0, none⟩), .pointer (some ⟨C, 0, none⟩)] w fun e w' => e = .returned (.int .i64 13) ∧ Below w.heap.size w w' := by
  go_enter Try.func31, Try.ntmps31
  go_wp2
  go_region_held3 (fun w' => w'.cell? ⟨A, 4, none⟩ = some (.int .i64 (b / 2000 + 1)) ∧ w'.cell? ⟨B, 0, none⟩ = some (.int .i64 b) ∧ w'.cell? ⟨C, 0, none⟩ = some (.int .i64 x) ∧ w'.cell? ⟨C, 1, none⟩ = some (.int .i64 y)) (first | exact ⟨ha, hb, hc, hd⟩ | exact ⟨cell_more ha, cell_more hb, cell_more hc, cell_more hd⟩)
    (first
      | (go_at_call 30; refine (unless_no _ _).mono ?_; rintro e w' ⟨rfl, rfl⟩)
      | (go_at_call 23; refine (of_any _ h0 h1 _).mono ?_; rintro e w' ⟨rfl, rfl⟩)
      | (go_at_call 32; refine (num_any _ (by omega) (by omega) _).mono ?_; rintro e w' ⟨rfl, rfl⟩)
      | (go_at_call 26; refine (knows_no _ _ _ h _).mono ?_; rintro e w' ⟨rfl, rfl⟩))
  go_wp2
  go_ret
  exact ⟨rfl, by repeat (first | exact Below.refl _ _ | apply Below.drew | refine Below.alloc ?_ (Nat.le_refl _) _)⟩
theorem ix0 (w : World) (A B C : Addr) : (Instr.index 53 (.agg #[.func (.func 28) #[] #[.pointer (some C)], .func (.func 29) #[] #[.pointer (some A), .pointer (some C)], .func (.func 31) #[] #[.pointer (some A), .pointer (some C), .pointer (some B)]]) (.int .i64 0)).run Try.prog w = .ok (.func (.func 28) #[] #[.pointer (some C)]) w := by kernel_rfl
theorem ix1 (w : World) (A B C : Addr) : (Instr.index 53 (.agg #[.func (.func 28) #[] #[.pointer (some C)], .func (.func 29) #[] #[.pointer (some A), .pointer (some C)], .func (.func 31) #[] #[.pointer (some A), .pointer (some C), .pointer (some B)]]) (.int .i64 1)).run Try.prog w = .ok (.func (.func 29) #[] #[.pointer (some A), .pointer (some C)]) w := by kernel_rfl
theorem ix2 (w : World) (A B C : Addr) : (Instr.index 53 (.agg #[.func (.func 28) #[] #[.pointer (some C)], .func (.func 29) #[] #[.pointer (some A), .pointer (some C)], .func (.func 31) #[] #[.pointer (some A), .pointer (some C), .pointer (some B)]]) (.int .i64 2)).run Try.prog w = .ok (.func (.func 31) #[] #[.pointer (some A), .pointer (some C), .pointer (some B)]) w := by kernel_rfl
set_option maxRecDepth 100000 in
theorem open_no1 (k fr to a key : Int) (bv : Value) (x y : Int) (b : Int) (h : b < 0 ∨ 1000000000 < b) (w : World) : Calls Try.prog 17 #[.agg #[.int .i64 k, .int .i64 fr, .int .i64 to, .int .i64 a, .int .i64 key, bv], .agg #[.int .i64 x, .int .i64 y], .int .i64 b] w fun e w' => e = .returned (.int .i64 1) ∧ Below w.heap.size w w' := by
  have i0 := ix0
  have i1 := ix1
  have i2 := ix2
  go_enter Try.func17, Try.ntmps17
  go_wp2_with fail
  refine wp_loop_rounds 1 ?_
  rw [rounds_succ]
  go_wp2_with (first | (go_at_call 28; refine (o1_no _ _ h _ ?pc).mono ?_; (case pc => go_simp); rintro e w' ⟨rfl, rfl⟩))
  go_ret
  first | exact ⟨rfl, below4 _ _ _ _ _⟩ | exact ⟨rfl, below4t hb (by simp; omega)⟩
set_option maxRecDepth 100000 in
theorem open_no2 (k fr to a key : Int) (bv : Value) (x y : Int) (b : Int) (h0 : 0 ≤ b) (h1 : b ≤ 1000000000) (h : a ≠ b) (w : World) : Calls Try.prog 17 #[.agg #[.int .i64 k, .int .i64 fr, .int .i64 to, .int .i64 a, .int .i64 key, bv], .agg #[.int .i64 x, .int .i64 y], .int .i64 b] w fun e w' => e = .returned (.int .i64 14) ∧ Below w.heap.size w w' := by
  have i0 := ix0
  have i1 := ix1
  have i2 := ix2
  go_enter Try.func17, Try.ntmps17
  go_wp2_with fail
  refine wp_loop_rounds 2 ?_
  rw [rounds_succ]
  go_wp2_with (first | (go_at_call 28; refine (o1_yes _ _ h0 h1 _ ?pc).mono ?_; (case pc => go_simp); rintro e w' ⟨rfl, rfl⟩) | (go_at_call 29; refine (o2_no _ _ _ _ h _ ?qc ?qd).mono ?_; (case qc => go_simp); (case qd => go_simp); rintro e w' ⟨rfl, rfl⟩))
  rw [rounds_succ]
  go_wp2_with (first | (go_at_call 28; refine (o1_yes _ _ h0 h1 _ ?pc).mono ?_; (case pc => go_simp); rintro e w' ⟨rfl, rfl⟩) | (go_at_call 29; refine (o2_no _ _ _ _ h _ ?qc ?qd).mono ?_; (case qc => go_simp); (case qd => go_simp); rintro e w' ⟨rfl, rfl⟩))
  go_ret
  first | exact ⟨rfl, below4 _ _ _ _ _⟩ | exact ⟨rfl, below4t hb (by simp; omega)⟩
set_option maxRecDepth 100000 in
theorem open_no3 (k fr to key : Int) (bv : Value) (x y : Int) (b : Int) (h0 : 0 ≤ b) (h1 : b ≤ 1000000000) (h : key ≠ b / 2000 + 1) (w : World) : Calls Try.prog 17 #[.agg #[.int .i64 k, .int .i64 fr, .int .i64 to, .int .i64 b, .int .i64 key, bv], .agg #[.int .i64 x, .int .i64 y], .int .i64 b] w fun e w' => e = .returned (.int .i64 13) ∧ Below w.heap.size w w' := by
  have i0 := ix0
  have i1 := ix1
  have i2 := ix2
  go_enter Try.func17, Try.ntmps17
  go_wp2_with fail
  refine wp_loop_rounds 3 ?_
  rw [rounds_succ]
  go_wp2_with (first | (go_at_call 28; refine (o1_yes _ _ h0 h1 _ ?pc).mono ?_; (case pc => go_simp); rintro e w' ⟨rfl, rfl⟩) | (go_at_call 29; refine (o2_yes _ _ b _ ?qc ?qd).mono ?_; (case qc => go_simp); (case qd => go_simp); rintro e w' ⟨rfl, rfl⟩) | (go_at_call 31; refine (o3_no1 _ _ _ b x y key h0 h1 h _ ?rc ?rd ?re ?rf).mono ?_; (case rc => go_simp); (case rd => go_simp); (case re => go_simp); (case rf => go_simp); rintro e w' ⟨rfl, hb⟩))
  rw [rounds_succ]
  go_wp2_with (first | (go_at_call 28; refine (o1_yes _ _ h0 h1 _ ?pc).mono ?_; (case pc => go_simp); rintro e w' ⟨rfl, rfl⟩) | (go_at_call 29; refine (o2_yes _ _ b _ ?qc ?qd).mono ?_; (case qc => go_simp); (case qd => go_simp); rintro e w' ⟨rfl, rfl⟩) | (go_at_call 31; refine (o3_no1 _ _ _ b x y key h0 h1 h _ ?rc ?rd ?re ?rf).mono ?_; (case rc => go_simp); (case rd => go_simp); (case re => go_simp); (case rf => go_simp); rintro e w' ⟨rfl, hb⟩))
  rw [rounds_succ]
  go_wp2_with (first | (go_at_call 28; refine (o1_yes _ _ h0 h1 _ ?pc).mono ?_; (case pc => go_simp); rintro e w' ⟨rfl, rfl⟩) | (go_at_call 29; refine (o2_yes _ _ b _ ?qc ?qd).mono ?_; (case qc => go_simp); (case qd => go_simp); rintro e w' ⟨rfl, rfl⟩) | (go_at_call 31; refine (o3_no1 _ _ _ b x y key h0 h1 h _ ?rc ?rd ?re ?rf).mono ?_; (case rc => go_simp); (case rd => go_simp); (case re => go_simp); (case rf => go_simp); rintro e w' ⟨rfl, hb⟩))
  go_ret
  first | exact ⟨rfl, below4 _ _ _ _ _⟩ | exact ⟨rfl, below4t hb (by simp; omega)⟩
set_option maxRecDepth 100000 in
theorem open_no4 (k fr to : Int) (bv : Value) (x y : Int) (b : Int) (h0 : 0 ≤ b) (h1 : b ≤ 1000000000) (h : b / 2000 < x ∨ y ≤ b / 2000) (w : World) : Calls Try.prog 17 #[.agg #[.int .i64 k, .int .i64 fr, .int .i64 to, .int .i64 b, .int .i64 (b / 2000 + 1), bv], .agg #[.int .i64 x, .int .i64 y], .int .i64 b] w fun e w' => e = .returned (.int .i64 13) ∧ Below w.heap.size w w' := by
  have i0 := ix0
  have i1 := ix1
  have i2 := ix2
  go_enter Try.func17, Try.ntmps17
  go_wp2_with fail
  refine wp_loop_rounds 3 ?_
  rw [rounds_succ]
  go_wp2_with (first | (go_at_call 28; refine (o1_yes _ _ h0 h1 _ ?pc).mono ?_; (case pc => go_simp); rintro e w' ⟨rfl, rfl⟩) | (go_at_call 29; refine (o2_yes _ _ b _ ?qc ?qd).mono ?_; (case qc => go_simp); (case qd => go_simp); rintro e w' ⟨rfl, rfl⟩) | (go_at_call 31; refine (o3_no2 _ _ _ b x y h0 h1 h _ ?rc ?rd ?re ?rf).mono ?_; (case rc => go_simp); (case rd => go_simp); (case re => go_simp); (case rf => go_simp); rintro e w' ⟨rfl, hb⟩))
  rw [rounds_succ]
  go_wp2_with (first | (go_at_call 28; refine (o1_yes _ _ h0 h1 _ ?pc).mono ?_; (case pc => go_simp); rintro e w' ⟨rfl, rfl⟩) | (go_at_call 29; refine (o2_yes _ _ b _ ?qc ?qd).mono ?_; (case qc => go_simp); (case qd => go_simp); rintro e w' ⟨rfl, rfl⟩) | (go_at_call 31; refine (o3_no2 _ _ _ b x y h0 h1 h _ ?rc ?rd ?re ?rf).mono ?_; (case rc => go_simp); (case rd => go_simp); (case re => go_simp); (case rf => go_simp); rintro e w' ⟨rfl, hb⟩))
  rw [rounds_succ]
  go_wp2_with (first | (go_at_call 28; refine (o1_yes _ _ h0 h1 _ ?pc).mono ?_; (case pc => go_simp); rintro e w' ⟨rfl, rfl⟩) | (go_at_call 29; refine (o2_yes _ _ b _ ?qc ?qd).mono ?_; (case qc => go_simp); (case qd => go_simp); rintro e w' ⟨rfl, rfl⟩) | (go_at_call 31; refine (o3_no2 _ _ _ b x y h0 h1 h _ ?rc ?rd ?re ?rf).mono ?_; (case rc => go_simp); (case rd => go_simp); (case re => go_simp); (case rf => go_simp); rintro e w' ⟨rfl, hb⟩))
  go_ret
  first | exact ⟨rfl, below4 _ _ _ _ _⟩ | exact ⟨rfl, below4t hb (by simp; omega)⟩
set_option maxRecDepth 100000 in
theorem open_yes (k fr to : Int) (bv : Value) (x y : Int) (b : Int) (h0 : 0 ≤ b) (h1 : b ≤ 1000000000) (h2 : x ≤ b / 2000) (h3 : b / 2000 < y) (w : World) : Calls Try.prog 17 #[.agg #[.int .i64 k, .int .i64 fr, .int .i64 to, .int .i64 b, .int .i64 (b / 2000 + 1), bv], .agg #[.int .i64 x, .int .i64 y], .int .i64 b] w fun e w' => e = .returned (.int .i64 0) ∧ Below w.heap.size w w' := by
  have i0 := ix0
  have i1 := ix1
  have i2 := ix2
  go_enter Try.func17, Try.ntmps17
  go_wp2_with fail
  refine wp_loop_rounds 4 ?_
  rw [rounds_succ]
  go_wp2_with (first | (go_at_call 28; refine (o1_yes _ _ h0 h1 _ ?pc).mono ?_; (case pc => go_simp); rintro e w' ⟨rfl, rfl⟩) | (go_at_call 29; refine (o2_yes _ _ b _ ?qc ?qd).mono ?_; (case qc => go_simp); (case qd => go_simp); rintro e w' ⟨rfl, rfl⟩) | (go_at_call 31; refine (o3_yes _ _ _ b x y h0 h1 h2 h3 _ ?rc ?rd ?re ?rf).mono ?_; (case rc => go_simp); (case rd => go_simp); (case re => go_simp); (case rf => go_simp); rintro e w' ⟨rfl, hb⟩))
  rw [rounds_succ]
  go_wp2_with (first | (go_at_call 28; refine (o1_yes _ _ h0 h1 _ ?pc).mono ?_; (case pc => go_simp); rintro e w' ⟨rfl, rfl⟩) | (go_at_call 29; refine (o2_yes _ _ b _ ?qc ?qd).mono ?_; (case qc => go_simp); (case qd => go_simp); rintro e w' ⟨rfl, rfl⟩) | (go_at_call 31; refine (o3_yes _ _ _ b x y h0 h1 h2 h3 _ ?rc ?rd ?re ?rf).mono ?_; (case rc => go_simp); (case rd => go_simp); (case re => go_simp); (case rf => go_simp); rintro e w' ⟨rfl, hb⟩))
  rw [rounds_succ]
  go_wp2_with (first | (go_at_call 28; refine (o1_yes _ _ h0 h1 _ ?pc).mono ?_; (case pc => go_simp); rintro e w' ⟨rfl, rfl⟩) | (go_at_call 29; refine (o2_yes _ _ b _ ?qc ?qd).mono ?_; (case qc => go_simp); (case qd => go_simp); rintro e w' ⟨rfl, rfl⟩) | (go_at_call 31; refine (o3_yes _ _ _ b x y h0 h1 h2 h3 _ ?rc ?rd ?re ?rf).mono ?_; (case rc => go_simp); (case rd => go_simp); (case re => go_simp); (case rf => go_simp); rintro e w' ⟨rfl, hb⟩))
  rw [rounds_succ]
  go_wp2_with (first | (go_at_call 28; refine (o1_yes _ _ h0 h1 _ ?pc).mono ?_; (case pc => go_simp); rintro e w' ⟨rfl, rfl⟩) | (go_at_call 29; refine (o2_yes _ _ b _ ?qc ?qd).mono ?_; (case qc => go_simp); (case qd => go_simp); rintro e w' ⟨rfl, rfl⟩) | (go_at_call 31; refine (o3_yes _ _ _ b x y h0 h1 h2 h3 _ ?rc ?rd ?re ?rf).mono ?_; (case rc => go_simp); (case rd => go_simp); (case re => go_simp); (case rf => go_simp); rintro e w' ⟨rfl, hb⟩))
  go_ret
  first | exact ⟨rfl, below4 _ _ _ _ _⟩ | exact ⟨rfl, below4t hb (by simp; omega)⟩
end Go.Proofs.Ythekjpipngcmnaa
