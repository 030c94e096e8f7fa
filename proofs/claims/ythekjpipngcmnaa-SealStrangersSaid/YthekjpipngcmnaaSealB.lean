/-
  Package seal, each function by one contract: Key, Own, Open, Seal.
-/
import Derived.Test.YthekjpipngcmnaaSeal
namespace Go.Proofs.Ythekjpipngcmnaa
open Go.RowKit
set_option linter.unusedVariables false
set_option linter.unusedSimpArgs false
theorem ret_int {k : IntKind} {a b : Int} (h : a = b) : Ending.returned (.int k a) = .returned (.int k b) := by rw [h]
/-- What Key and Own answer. -/
def keyV (a : Int) : Int := if 0 ≤ a ∧ a ≤ 1000000000 then a / 2000 + 1 else 0
def keyE (a : Int) : Int := if 0 ≤ a ∧ a ≤ 1000000000 then 0 else 1
def ownV (a : Int) : Int := if 0 ≤ a ∧ a < 60 then 1000000 + a else 0
def ownE (a : Int) : Int := if 0 ≤ a ∧ a < 60 then 0 else 1
/-- What Open answers. -/
def openE (a key x y b : Int) : Int := if b < 0 ∨ 1000000000 < b then 1 else if a ≠ b then 14 else if key = b / 2000 + 1 ∧ x ≤ b / 2000 ∧ b / 2000 < y then 0 else 13
/-- What Seal answers: may it seal, and its error where it may not. -/
def sealOk (a x y : Int) : Prop := 0 ≤ a ∧ a ≤ 1000000000 ∧ x ≤ a / 2000 ∧ a / 2000 < y
def sealE (a : Int) : Int := if 0 ≤ a ∧ a ≤ 1000000000 then 13 else 1
theorem key_all (a : Int) (w : World) : Calls Try.prog 10 #[.int .i64 a] w fun e w' => e = .returned (.tuple #[.int .i64 (keyV a), .int .i64 (keyE a)]) ∧ w = w' := by
  by_cases h : 0 ≤ a ∧ a ≤ 1000000000
  · unfold keyV keyE; rw [if_pos h, if_pos h]; exact key_yes a h.1 h.2 w
  · unfold keyV keyE; rw [if_neg h, if_neg h]; exact key_no a (by omega) w
theorem own_all (a : Int) (w : World) : Calls Try.prog 12 #[.int .i64 a] w fun e w' => e = .returned (.tuple #[.int .i64 (ownV a), .int .i64 (ownE a)]) ∧ w = w' := by
  by_cases h : 0 ≤ a ∧ a < 60
  · unfold ownV ownE; rw [if_pos h, if_pos h]; exact own_yes a h.1 h.2 w
  · unfold ownV ownE; rw [if_neg h, if_neg h]; exact own_no a (by omega) w
theorem open_all (k fr to a key : Int) (bv : Value) (x y : Int) (b : Int) (w : World) : Calls Try.prog 17 #[.agg #[.int .i64 k, .int .i64 fr, .int .i64 to, .int .i64 a, .int .i64 key, bv], .agg #[.int .i64 x, .int .i64 y], .int .i64 b] w fun e w' => e = .returned (.int .i64 (openE a key x y b)) ∧ Below w.heap.size w w' := by
  unfold openE
  by_cases h : b < 0 ∨ 1000000000 < b
  · rw [if_pos h]; exact open_no1 k fr to a key bv x y b h w
  rw [if_neg h]
  by_cases h2 : a ≠ b
  · rw [if_pos h2]; exact open_no2 k fr to a key bv x y b (by omega) (by omega) h2 w
  rw [if_neg h2]
  obtain rfl : a = b := by omega
  by_cases h3 : key = a / 2000 + 1
  · subst h3
    by_cases h4 : x ≤ a / 2000 ∧ a / 2000 < y
    · rw [if_pos ⟨rfl, h4.1, h4.2⟩]; exact open_yes k fr to bv x y a (by omega) (by omega) h4.1 h4.2 w
    · rw [if_neg (fun h => h4 ⟨h.2.1, h.2.2⟩)]; exact open_no4 k fr to bv x y a (by omega) (by omega) (by omega) w
  · rw [if_neg (fun h => h3 h.1)]; exact open_no3 k fr to key bv x y a (by omega) (by omega) h3 w
set_option maxRecDepth 100000 in
theorem seal_no1 (k fr to a key : Int) (A : Option Addr) (n c : Nat) (x y : Int) (h : a < 0 ∨ 1000000000 < a) (w : World) : Calls Try.prog 14 #[.agg #[.int .i64 k, .int .i64 fr, .int .i64 to, .int .i64 a, .int .i64 key, .slice A n c], .agg #[.int .i64 x, .int .i64 y]] w fun e w' => e = .returned (.tuple #[.agg #[.int .i64 0, .int .i64 0, .int .i64 0, .int .i64 0, .int .i64 0, .slice none 0 0], .int .i64 1]) ∧ Below w.heap.size w w' := by
  go_enter Try.func14, Try.ntmps14
  go_wp2_with (first
    | (go_at_call 10; refine (key_no _ h _).mono ?_; rintro e w' ⟨rfl, rfl⟩))
  refine bodyPost_ret (v := .tuple #[.agg #[.int .i64 0, .int .i64 0, .int .i64 0, .int .i64 0, .int .i64 0, .slice none 0 0], .int .i64 1]) (by simp [results, Try.results14, go_sem]) rfl ⟨rfl, ?_⟩
  repeat (first | exact Below.refl _ _ | apply Below.drew | refine Below.alloc ?_ (by simp <;> omega) _ | refine Below.setCell ?_ (by simp) _)
set_option maxRecDepth 100000 in
theorem seal_no2 (k fr to a key : Int) (A : Option Addr) (n c : Nat) (x y : Int) (h0 : 0 ≤ a) (h1 : a ≤ 1000000000) (h : a / 2000 < x ∨ y ≤ a / 2000) (w : World) : Calls Try.prog 14 #[.agg #[.int .i64 k, .int .i64 fr, .int .i64 to, .int .i64 a, .int .i64 key, .slice A n c], .agg #[.int .i64 x, .int .i64 y]] w fun e w' => e = .returned (.tuple #[.agg #[.int .i64 0, .int .i64 0, .int .i64 0, .int .i64 0, .int .i64 0, .slice none 0 0], .int .i64 13]) ∧ Below w.heap.size w w' := by
  go_enter Try.func14, Try.ntmps14
  go_wp2_with (first
    | (go_at_call 10; refine (key_yes _ h0 h1 _).mono ?_; rintro e w' ⟨rfl, rfl⟩))
  go_region_held3 (fun w' => w'.cell? ⟨w.heap.size, 3, none⟩ = some (.int .i64 a) ∧ w'.cell? ⟨w.heap.size + 1, 0, none⟩ = some (.int .i64 x) ∧ w'.cell? ⟨w.heap.size + 1, 1, none⟩ = some (.int .i64 y)) (simp [go_sem, World.cell?_alloc_past])
    (first
      | (go_at_call 23; refine (of_any _ h0 h1 _).mono ?_; rintro e w' ⟨rfl, rfl⟩)
      | (go_at_call 26; refine (knows_no _ _ _ h _).mono ?_; rintro e w' ⟨rfl, rfl⟩))
  go_wp2
  refine bodyPost_ret (v := .tuple #[.agg #[.int .i64 0, .int .i64 0, .int .i64 0, .int .i64 0, .int .i64 0, .slice none 0 0], .int .i64 13]) (by simp [results, Try.results14, go_sem]) rfl ⟨rfl, ?_⟩
  repeat (first | exact Below.refl _ _ | apply Below.drew | refine Below.alloc ?_ (by simp <;> omega) _ | refine Below.setCell ?_ (by simp) _)
theorem seal_no (k fr to a key : Int) (A : Option Addr) (n c : Nat) (x y : Int) (h : ¬ sealOk a x y) (w : World) : Calls Try.prog 14 #[.agg #[.int .i64 k, .int .i64 fr, .int .i64 to, .int .i64 a, .int .i64 key, .slice A n c], .agg #[.int .i64 x, .int .i64 y]] w fun e w' => e = .returned (.tuple #[.agg #[.int .i64 0, .int .i64 0, .int .i64 0, .int .i64 0, .int .i64 0, .slice none 0 0], .int .i64 (sealE a)]) ∧ Below w.heap.size w w' := by
  unfold sealE
  unfold sealOk at h
  by_cases h1 : 0 ≤ a ∧ a ≤ 1000000000
  · rw [if_pos h1]; exact seal_no2 k fr to a key A n c x y h1.1 h1.2 (by omega) w
  · rw [if_neg h1]; exact seal_no1 k fr to a key A n c x y (by omega) w
set_option maxRecDepth 100000 in
theorem seal_yes (k fr to a key : Int) (A : Option Addr) (n c : Nat) (x y : Int) (h0 : 0 ≤ a) (h1 : a ≤ 1000000000) (h2 : x ≤ a / 2000) (h3 : a / 2000 < y) (w : World) : Calls Try.prog 14 #[.agg #[.int .i64 k, .int .i64 fr, .int .i64 to, .int .i64 a, .int .i64 key, .slice A n c], .agg #[.int .i64 x, .int .i64 y]] w fun e w' => e = .returned (.tuple #[.agg #[.int .i64 k, .int .i64 fr, .int .i64 to, .int .i64 a, .int .i64 (a / 2000 + 1), .slice A n c], .int .i64 0]) ∧ Below w.heap.size w w' := by
  go_enter Try.func14, Try.ntmps14
  go_wp2_with (first
    | (go_at_call 10; refine (key_yes _ h0 h1 _).mono ?_; rintro e w' ⟨rfl, rfl⟩))
  go_region_held3 (fun w' => w'.cell? ⟨w.heap.size, 3, none⟩ = some (.int .i64 a) ∧ w'.cell? ⟨w.heap.size + 1, 0, none⟩ = some (.int .i64 x) ∧ w'.cell? ⟨w.heap.size + 1, 1, none⟩ = some (.int .i64 y)) (simp [go_sem, World.cell?_alloc_past])
    (first
      | (go_at_call 23; refine (of_any _ h0 h1 _).mono ?_; rintro e w' ⟨rfl, rfl⟩)
      | (go_at_call 26; refine (knows_yes _ _ _ h2 h3 _).mono ?_; rintro e w' ⟨rfl, rfl⟩))
  go_wp2
  refine bodyPost_ret (v := .tuple #[.agg #[.int .i64 k, .int .i64 fr, .int .i64 to, .int .i64 a, .int .i64 (a / 2000 + 1), .slice A n c], .int .i64 0]) (by simp [results, Try.results14, go_sem]) rfl ⟨rfl, ?_⟩
  repeat (first | exact Below.refl _ _ | apply Below.drew | refine Below.alloc ?_ (by simp <;> omega) _ | refine Below.setCell ?_ (by simp) _)
theorem seal_ok (k fr to a key : Int) (A : Option Addr) (n c : Nat) (x y : Int) (h : sealOk a x y) (w : World) : Calls Try.prog 14 #[.agg #[.int .i64 k, .int .i64 fr, .int .i64 to, .int .i64 a, .int .i64 key, .slice A n c], .agg #[.int .i64 x, .int .i64 y]] w fun e w' => e = .returned (.tuple #[.agg #[.int .i64 k, .int .i64 fr, .int .i64 to, .int .i64 a, .int .i64 (a / 2000 + 1), .slice A n c], .int .i64 0]) ∧ Below w.heap.size w w' :=
  seal_yes k fr to a key A n c x y h.1 h.2.1 h.2.2.1 h.2.2.2 w
theorem seal_bad (a : Int) : (sealE a != 0) = true := by unfold sealE; split <;> rfl
theorem seal_bad' (a : Int) : (sealE a == 0) = false := by unfold sealE; split <;> rfl
end Go.Proofs.Ythekjpipngcmnaa
