/-
  The reference of package seal, and frames that are equal.
-/
import Derived.Test.YthekjpipngcmnaaSealB
import Derived.Test.YthekjpipngcmnaaOpen
import Derived.LoopTactic
import Derived.Lib.Hide
namespace Go.Proofs.Ythekjpipngcmnaa
open Go.RowKit
set_option linter.unusedVariables false
set_option linter.unusedSimpArgs false
theorem rslot_yes (a : Int) (h0 : 0 ≤ a) (h1 : a ≤ 1000000000) (w : World) : Calls Try.prog 25 #[.int .i64 a] w fun e w' => e = .returned (.bool true) ∧ w = w' := by
  go_enter Try.func25, Try.ntmps25
  go_wp2
  go_ret
  exact ⟨by simp, rfl⟩
theorem rslot_no (a : Int) (h : a < 0 ∨ 1000000000 < a) (w : World) : Calls Try.prog 25 #[.int .i64 a] w fun e w' => e = .returned (.bool false) ∧ w = w' := by
  rcases h with h | h
  · go_enter Try.func25, Try.ntmps25
    go_wp2
    go_ret
    exact ⟨rfl, rfl⟩
  · have h0 : 0 ≤ a := by omega
    have h1 : decide (a ≤ 1000000000) = false := decide_eq_false (by omega)
    go_enter Try.func25, Try.ntmps25
    go_wp2
    go_ret
    exact ⟨rfl, rfl⟩
theorem repoch (a : Int) (h0 : 0 ≤ a) (h1 : a ≤ 1000000000) (w : World) : Calls Try.prog 20 #[.int .i64 a] w fun e w' => e = .returned (.int .i64 (a / 2000)) ∧ w = w' := by
  go_enter Try.func20, Try.ntmps20
  go_wp2
  go_ret
  exact ⟨ret_int (by omega), rfl⟩
/-- What Knows answers. -/
def knowsB (x y n : Int) : Bool := decide (x ≤ n) && decide (n < y)
theorem rknows (x y n : Int) (w : World) : Calls Try.prog 19 #[.agg #[.int .i64 x, .int .i64 y], .int .i64 n] w fun e w' => e = .returned (.bool (knowsB x y n)) ∧ w.alloc (.cells #[.int .i64 x, .int .i64 y] 26) = w' := by
  unfold knowsB
  by_cases h : x ≤ n
  · have h2 : decide (x ≤ n) = true := decide_eq_true h
    rw [h2, Bool.true_and]
    go_enter Try.func19, Try.ntmps19
    go_wp2
    go_ret
    exact ⟨rfl, rfl⟩
  · have h2 : decide (x ≤ n) = false := decide_eq_false h
    rw [h2, Bool.false_and]
    go_enter Try.func19, Try.ntmps19
    go_wp2
    go_ret
    exact ⟨rfl, rfl⟩
theorem rkey_all (a : Int) (w : World) : Calls Try.prog 11 #[.int .i64 a] w fun e w' => e = .returned (.tuple #[.int .i64 (keyV a), .int .i64 (keyE a)]) ∧ w = w' := by
  unfold keyV keyE
  by_cases h : 0 ≤ a ∧ a ≤ 1000000000
  · rw [if_pos h, if_pos h]
    obtain ⟨h0, h1⟩ := h
    go_enter Try.func11, Try.ntmps11
    go_wp2_with (first
      | (go_at_call 25; refine (rslot_yes _ h0 h1 _).mono ?_; rintro e w' ⟨rfl, rfl⟩)
      | (go_at_call 20; refine (repoch _ h0 h1 _).mono ?_; rintro e w' ⟨rfl, rfl⟩))
    go_ret2
    exact ⟨rfl, rfl⟩
  · rw [if_neg h, if_neg h]
    have h' : a < 0 ∨ 1000000000 < a := by omega
    go_enter Try.func11, Try.ntmps11
    go_wp2_with (first
      | (go_at_call 25; refine (rslot_no _ h' _).mono ?_; rintro e w' ⟨rfl, rfl⟩))
    go_ret2
    exact ⟨rfl, rfl⟩
theorem rown_all (a : Int) (w : World) : Calls Try.prog 13 #[.int .i64 a] w fun e w' => e = .returned (.tuple #[.int .i64 (ownV a), .int .i64 (ownE a)]) ∧ w = w' := by
  unfold ownV ownE
  by_cases h0 : a < 0
  · rw [if_neg (by omega), if_neg (by omega)]
    go_enter Try.func13, Try.ntmps13
    go_wp2
    go_ret2
    exact ⟨rfl, rfl⟩
  have h0' : decide (a < 0) = false := decide_eq_false h0
  by_cases h1 : 59 < a
  · rw [if_neg (by omega), if_neg (by omega)]
    have h1' : decide (59 < a) = true := decide_eq_true h1
    go_enter Try.func13, Try.ntmps13
    go_wp2
    go_ret2
    exact ⟨rfl, rfl⟩
  · rw [if_pos (by omega), if_pos (by omega)]
    have h1' : decide (59 < a) = false := decide_eq_false h1
    go_enter Try.func13, Try.ntmps13
    go_wp2
    go_ret2
    exact ⟨rfl, rfl⟩
set_option maxRecDepth 100000 in
theorem rseal_no (k fr to a key : Int) (A : Option Addr) (n c : Nat) (x y : Int) (h : ¬ sealOk a x y) (w : World) : Calls Try.prog 15 #[.agg #[.int .i64 k, .int .i64 fr, .int .i64 to, .int .i64 a, .int .i64 key, .slice A n c], .agg #[.int .i64 x, .int .i64 y]] w fun e w' => e = .returned (.tuple #[.agg #[.int .i64 0, .int .i64 0, .int .i64 0, .int .i64 0, .int .i64 0, .slice none 0 0], .int .i64 (sealE a)]) ∧ Below w.heap.size w w' := by
  unfold sealE
  unfold sealOk at h
  by_cases h1 : 0 ≤ a ∧ a ≤ 1000000000
  · rw [if_pos h1]
    obtain ⟨h0, h1⟩ := h1
    have hk : knowsB x y (a / 2000) = false := by
      unfold knowsB; rw [Bool.and_eq_false_iff]; simp only [decide_eq_false_iff_not]; omega
    clear h
    go_enter Try.func15, Try.ntmps15
    go_wp2_with (go_at_call 25; refine (rslot_yes _ h0 h1 _).mono ?_; rintro e w' ⟨rfl, rfl⟩)
    go_region_held3 (fun w' => w'.cell? ⟨w.heap.size, 3, none⟩ = some (.int .i64 a) ∧ w'.cell? ⟨w.heap.size + 1, 0, none⟩ = some (.int .i64 x) ∧ w'.cell? ⟨w.heap.size + 1, 1, none⟩ = some (.int .i64 y)) (simp [go_sem, World.cell?_alloc_past])
    (first
      | (go_at_call 20; refine (repoch _ h0 h1 _).mono ?_; rintro e w' ⟨rfl, rfl⟩)
      | (go_at_call 19; refine (rknows _ _ _ _).mono ?_; rintro e w' ⟨rfl, rfl⟩))
    go_wp2
    refine bodyPost_ret (v := .tuple #[.agg #[.int .i64 0, .int .i64 0, .int .i64 0, .int .i64 0, .int .i64 0, .slice none 0 0], .int .i64 13]) (by simp [results, Try.results15, go_sem]) rfl ⟨rfl, ?_⟩
    repeat (first | exact Below.refl _ _ | apply Below.drew | apply below_drewN' | refine Below.alloc ?_ (by simp <;> omega) _ | refine Below.setCell ?_ (by simp) _)
  · rw [if_neg h1]
    have h' : a < 0 ∨ 1000000000 < a := by omega
    clear h h1
    go_enter Try.func15, Try.ntmps15
    go_wp2_with (first
      | (go_at_call 25; refine (rslot_no _ h' _).mono ?_; rintro e w' ⟨rfl, rfl⟩))
    refine bodyPost_ret (v := .tuple #[.agg #[.int .i64 0, .int .i64 0, .int .i64 0, .int .i64 0, .int .i64 0, .slice none 0 0], .int .i64 1]) (by simp [results, Try.results15, go_sem]) rfl ⟨rfl, ?_⟩
    repeat (first | exact Below.refl _ _ | apply Below.drew | apply below_drewN' | refine Below.alloc ?_ (by simp <;> omega) _ | refine Below.setCell ?_ (by simp) _)
theorem known (x y n : Int) (h : x ≤ n) (h' : n < y) : knowsB x y n = true := by unfold knowsB; simp [h, h']
set_option maxRecDepth 100000 in
theorem rseal_ok (k fr to a key : Int) (A : Option Addr) (n c : Nat) (x y : Int) (h : sealOk a x y) (w : World) : Calls Try.prog 15 #[.agg #[.int .i64 k, .int .i64 fr, .int .i64 to, .int .i64 a, .int .i64 key, .slice A n c], .agg #[.int .i64 x, .int .i64 y]] w fun e w' => e = .returned (.tuple #[.agg #[.int .i64 k, .int .i64 fr, .int .i64 to, .int .i64 a, .int .i64 (a / 2000 + 1), .slice A n c], .int .i64 0]) ∧ Below w.heap.size w w' := by
  obtain ⟨h0, h1, h2, h3⟩ := h
  have hk := known _ _ _ h2 h3
  go_enter Try.func15, Try.ntmps15
  go_wp2_with (go_at_call 25; refine (rslot_yes _ h0 h1 _).mono ?_; rintro e w' ⟨rfl, rfl⟩)
  go_region_held3 (fun w' => w'.cell? ⟨w.heap.size, 3, none⟩ = some (.int .i64 a) ∧ w'.cell? ⟨w.heap.size + 1, 0, none⟩ = some (.int .i64 x) ∧ w'.cell? ⟨w.heap.size + 1, 1, none⟩ = some (.int .i64 y)) (simp [go_sem, World.cell?_alloc_past])
    (first
      | (go_at_call 20; refine (repoch _ h0 h1 _).mono ?_; rintro e w' ⟨rfl, rfl⟩)
      | (go_at_call 19; refine (rknows _ _ _ _).mono ?_; rintro e w' ⟨rfl, rfl⟩))
  go_wp2_with (go_at_call 20; refine (repoch _ h0 h1 _).mono ?_; rintro e w' ⟨rfl, rfl⟩)
  refine bodyPost_ret (v := .tuple #[.agg #[.int .i64 k, .int .i64 fr, .int .i64 to, .int .i64 a, .int .i64 (a / 2000 + 1), .slice A n c], .int .i64 0]) (by simp [results, Try.results15, go_sem]) rfl ⟨rfl, ?_⟩
  repeat (first | exact Below.refl _ _ | apply Below.drew | apply below_drewN' | refine Below.alloc ?_ (by simp <;> omega) _ | refine Below.setCell ?_ (by simp) _)
set_option maxRecDepth 100000 in
theorem ropen_all (k fr to a key : Int) (A : Option Addr) (n c : Nat) (x y : Int) (b : Int) (w : World) : Calls Try.prog 18 #[.agg #[.int .i64 k, .int .i64 fr, .int .i64 to, .int .i64 a, .int .i64 key, .slice A n c], .agg #[.int .i64 x, .int .i64 y], .int .i64 b] w fun e w' => e = .returned (.int .i64 (openE a key x y b)) ∧ Below w.heap.size w w' := by
  unfold openE
  by_cases h : b < 0 ∨ 1000000000 < b
  · rw [if_pos h]
    go_enter Try.func18, Try.ntmps18
    go_wp2_with (go_at_call 25; refine (rslot_no _ h _).mono ?_; rintro e w' ⟨rfl, rfl⟩)
    go_ret
    exact ⟨rfl, by repeat (first | exact Below.refl _ _ | apply Below.drew | apply below_drewN' | refine Below.alloc ?_ (by simp <;> omega) _ | refine Below.setCell ?_ (by simp) _)⟩
  rw [if_neg h]
  have h0 : 0 ≤ b := by omega
  have h1 : b ≤ 1000000000 := by omega
  clear h
  by_cases h2 : a ≠ b
  · rw [if_pos h2]
    have h2' : (a != b) = true := by rw [bne_iff_ne]; exact h2
    clear h2
    go_enter Try.func18, Try.ntmps18
    go_wp2_with (go_at_call 25; refine (rslot_yes _ h0 h1 _).mono ?_; rintro e w' ⟨rfl, rfl⟩)
    go_ret
    exact ⟨rfl, by repeat (first | exact Below.refl _ _ | apply Below.drew | apply below_drewN' | refine Below.alloc ?_ (by simp <;> omega) _ | refine Below.setCell ?_ (by simp) _)⟩
  rw [if_neg h2]
  obtain rfl : a = b := by omega
  clear h2
  have hw1 : IntKind.i64.wrap (a / 2000 + 1) = a / 2000 + 1 := IntWalk.i64_in _ (by omega)
  by_cases h4 : x ≤ a / 2000 ∧ a / 2000 < y
  · have hk := known _ _ _ h4.1 h4.2
    by_cases h3 : key = a / 2000 + 1
    · rw [if_pos ⟨h3, h4.1, h4.2⟩]
      subst h3
      clear h4
      go_enter Try.func18, Try.ntmps18
      go_wp2_with (go_at_call 25; refine (rslot_yes _ h0 h1 _).mono ?_; rintro e w' ⟨rfl, rfl⟩)
      go_region_held3 (fun w' => w'.cell? ⟨w.heap.size + 1, 0, none⟩ = some (.int .i64 x) ∧ w'.cell? ⟨w.heap.size + 1, 1, none⟩ = some (.int .i64 y)) (simp [go_sem, World.cell?_alloc_past])
    (first
      | (go_at_call 20; refine (repoch _ h0 h1 _).mono ?_; rintro e w' ⟨rfl, rfl⟩)
      | (go_at_call 19; refine (rknows _ _ _ _).mono ?_; rintro e w' ⟨rfl, rfl⟩))
      go_wp2
      go_region_held3 (fun w' => w'.cell? ⟨w.heap.size, 4, none⟩ = some (.int .i64 (a / 2000 + 1))) (simp [go_sem, World.cell?_alloc_past])
    (first
      | (go_at_call 20; refine (repoch _ h0 h1 _).mono ?_; rintro e w' ⟨rfl, rfl⟩)
      | (go_at_call 19; refine (rknows _ _ _ _).mono ?_; rintro e w' ⟨rfl, rfl⟩))
      go_wp2
      go_ret
      exact ⟨rfl, by repeat (first | exact Below.refl _ _ | apply Below.drew | apply below_drewN' | refine Below.alloc ?_ (by simp <;> omega) _ | refine Below.setCell ?_ (by simp) _)⟩
    · rw [if_neg (fun h => h3 h.1)]
      have h3' : (key != a / 2000 + 1) = true := by rw [bne_iff_ne]; exact h3
      clear h4 h3
      go_enter Try.func18, Try.ntmps18
      go_wp2_with (go_at_call 25; refine (rslot_yes _ h0 h1 _).mono ?_; rintro e w' ⟨rfl, rfl⟩)
      go_region_held3 (fun w' => w'.cell? ⟨w.heap.size + 1, 0, none⟩ = some (.int .i64 x) ∧ w'.cell? ⟨w.heap.size + 1, 1, none⟩ = some (.int .i64 y)) (simp [go_sem, World.cell?_alloc_past])
    (first
      | (go_at_call 20; refine (repoch _ h0 h1 _).mono ?_; rintro e w' ⟨rfl, rfl⟩)
      | (go_at_call 19; refine (rknows _ _ _ _).mono ?_; rintro e w' ⟨rfl, rfl⟩))
      go_wp2
      go_region_held3 (fun w' => w'.cell? ⟨w.heap.size, 4, none⟩ = some (.int .i64 key)) (simp [go_sem, World.cell?_alloc_past])
    (first
      | (go_at_call 20; refine (repoch _ h0 h1 _).mono ?_; rintro e w' ⟨rfl, rfl⟩)
      | (go_at_call 19; refine (rknows _ _ _ _).mono ?_; rintro e w' ⟨rfl, rfl⟩))
      go_wp2
      go_ret
      exact ⟨rfl, by repeat (first | exact Below.refl _ _ | apply Below.drew | apply below_drewN' | refine Below.alloc ?_ (by simp <;> omega) _ | refine Below.setCell ?_ (by simp) _)⟩
  · rw [if_neg (fun h => h4 ⟨h.2.1, h.2.2⟩)]
    have hk : knowsB x y (a / 2000) = false := by
      unfold knowsB; rw [Bool.and_eq_false_iff]; simp only [decide_eq_false_iff_not]; omega
    clear h4
    go_enter Try.func18, Try.ntmps18
    go_wp2_with (go_at_call 25; refine (rslot_yes _ h0 h1 _).mono ?_; rintro e w' ⟨rfl, rfl⟩)
    go_region_held3 (fun w' => w'.cell? ⟨w.heap.size + 1, 0, none⟩ = some (.int .i64 x) ∧ w'.cell? ⟨w.heap.size + 1, 1, none⟩ = some (.int .i64 y)) (simp [go_sem, World.cell?_alloc_past])
    (first
      | (go_at_call 20; refine (repoch _ h0 h1 _).mono ?_; rintro e w' ⟨rfl, rfl⟩)
      | (go_at_call 19; refine (rknows _ _ _ _).mono ?_; rintro e w' ⟨rfl, rfl⟩))
    go_wp2
    go_quiet (fail)
    go_wp2
    go_ret
    exact ⟨rfl, by repeat (first | exact Below.refl _ _ | apply Below.drew | apply below_drewN' | refine Below.alloc ?_ (by simp <;> omega) _ | refine Below.setCell ?_ (by simp) _)⟩
theorem same_refl (A : Option Addr) (n c : Nat) (w : World) (hB : Bytes w A n) : Calls Try.prog 27 #[.slice A n c, .slice A n c] w fun e w' => e = .returned (.bool true) ∧ ∃ q, w.drewN q = w' := by
  obtain ⟨hm, hB⟩ := hB
  unfold maxLen at hm
  go_enter Try.func27, Try.ntmps27
  go_wp2
  go_loopw [5] (fun i wr => ∃ k : Nat, k ≤ n ∧ i = .int .i64 k ∧ ∃ q, wr = w.drewN q) (fun i _ => n - (intOf i).toNat)
  case atStart => exact ⟨0, Nat.zero_le _, rfl, 0, rfl⟩
  case round =>
    obtain ⟨k, hk, rfl, q, rfl⟩ := hrel
    by_cases hlt : k < n
    · obtain ⟨b, off, rfl, hc⟩ := hB (by omega)
      obtain ⟨z, hz⟩ := hc k hlt
      clear hc hB
      go_wp2
      go_quiet (fail)
      go_wp2
      go_roundw
      case rel => exact ⟨k + 1, by omega, by go_num, _, rfl⟩
      case measure => simp [intOf]; omega
    · clear hB
      go_wp2
      go_ret
      exact ⟨rfl, _, rfl⟩
set_option maxRecDepth 100000 in
theorem sameFrame_refl (k fr to a key : Int) (A : Option Addr) (n c : Nat) (w : World) (hB : Bytes w A n) : Calls Try.prog 16 #[.agg #[.int .i64 k, .int .i64 fr, .int .i64 to, .int .i64 a, .int .i64 key, .slice A n c], .agg #[.int .i64 k, .int .i64 fr, .int .i64 to, .int .i64 a, .int .i64 key, .slice A n c]] w fun e w' => e = .returned (.bool true) ∧ Below w.heap.size w w' := by
  have hB' := Lib.hid hB
  clear hB
  go_enter Try.func16, Try.ntmps16
  go_wp2_with (go_at_call 27; refine (same_refl _ _ _ _ ((hB'.out.alloc _).alloc _)).mono ?_; rintro e w' ⟨rfl, q, rfl⟩)
  go_ret
  exact ⟨rfl, below_drewN' (((Below.refl _ _).alloc (Nat.le_refl _) _).alloc (by simp) _) _⟩
end Go.Proofs.Ythekjpipngcmnaa
