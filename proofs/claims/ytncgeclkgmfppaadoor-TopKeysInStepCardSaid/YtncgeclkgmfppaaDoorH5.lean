/-
  What functions of the program compute, as plain functions, each with its contract: the call returns just that, from every memory that holds its arguments.
-/
import Derived.Test.YtncgeclkgmfppaaDoorH0
import Derived.WalkLawsBesides
import Derived.Laws.EntriesVeiled
namespace Go.Proofs.YtncgeclkgmfppaaDoor.H
open Go.RowKit Go.Proofs.YtncgeclkgmfppaaDoorW.PrintWords Go.Proofs.YtncgeclkgmfppaaDoorW.PrintLast Go.Proofs.YtncgeclkgmfppaaDoorW.PrintMore
attribute [local go_sem] max2_int min2_int max_two min_two max_three min_three max_four min_four   -- for this text's walks alone
set_option linter.unusedVariables false
set_option linter.unusedSimpArgs false

-- HAND slotmesh/seal.Own
/-! ### seal_Own: function 82 -/
def seal_Own.f (a0 : Int) : Option (Int × Int) := if a0 ≥ 0 then (if a0 < 60 then some (1000000 + a0, 0) else some (0, 1)) else some (0, 1)
theorem onum_any (a : Int) (h0 : 0 ≤ a) (h1 : a ≤ 1000000000) (w : World) : Calls Tryd.prog 144 #[.int .i64 a] w fun e w' => e = .returned (.int .i64 (1000000 + a)) ∧ w = w' := by
  go_enter Tryd.func144, Tryd.ntmps144
  go_wp2
  go_ret
  exact ⟨rfl, rfl⟩
theorem meth_owner (a : Int) (w : World) : (method 284 138 (.int .i64 a) "slotmesh/seal.number").run Tryd.prog w = .ok (144, .int .i64 a) w := by kernel_rfl
theorem checked_owner (a : Int) (h0 : 0 ≤ a) (h1 : a ≤ 1000000000) (w : World) : Calls Tryd.prog 85 #[.iface 138 (.int .i64 a), .bool true] w fun e w' => e = .returned (.tuple #[.int .i64 (1000000 + a), .int .i64 0]) ∧ w = w' := by
  have hm := meth_owner a
  go_enter Tryd.func85, Tryd.ntmps85
  go_wp2_with (go_at_call 144; refine (onum_any _ h0 h1 _).mono ?_; rintro e w' ⟨rfl, rfl⟩)
  go_ret2
  exact ⟨rfl, rfl⟩
theorem checked_no (v : Value) (w : World) : Calls Tryd.prog 85 #[v, .bool false] w fun e w' => e = .returned (.tuple #[.int .i64 0, .int .i64 1]) ∧ w = w' := by
  go_enter Tryd.func85, Tryd.ntmps85
  go_wp2
  go_ret2
  exact ⟨rfl, rfl⟩
theorem own_yes (a : Int) (h0 : 0 ≤ a) (h1 : a < 60) (w : World) : Calls Tryd.prog 82 #[.int .i64 a] w fun e w' => e = .returned (.tuple #[.int .i64 (1000000 + a), .int .i64 0]) ∧ w = w' := by
  have h2 : decide (a < 60) = true := decide_eq_true h1
  go_enter Tryd.func82, Tryd.ntmps82
  go_wp2_with (first | (go_at_call 85; refine (checked_owner _ (by omega) (by omega) _).mono ?_; rintro e w' ⟨rfl, rfl⟩))
  go_ret2
  exact ⟨rfl, rfl⟩
theorem own_no (a : Int) (h : a < 0 ∨ 60 ≤ a) (w : World) : Calls Tryd.prog 82 #[.int .i64 a] w fun e w' => e = .returned (.tuple #[.int .i64 0, .int .i64 1]) ∧ w = w' := by
  rcases h with h | h
  · go_enter Tryd.func82, Tryd.ntmps82
    go_wp2_with (first | (go_at_call 85; refine (checked_no _ _).mono ?_; rintro e w' ⟨rfl, rfl⟩))
    go_ret2
    exact ⟨rfl, rfl⟩
  · have h0 : 0 ≤ a := by omega
    have h1 : decide (a < 60) = false := decide_eq_false (by omega)
    go_enter Tryd.func82, Tryd.ntmps82
    go_wp2_with (first | (go_at_call 85; refine (checked_no _ _).mono ?_; rintro e w' ⟨rfl, rfl⟩))
    go_ret2
    exact ⟨rfl, rfl⟩
theorem seal_Own.calls (a0 : Int) (r1 : Int) (r2 : Int) (w : World) (h : seal_Own.f a0 = some (r1, r2)) : Calls Tryd.prog 82 #[.int .i64 a0] w fun e w' => e = .returned (.tuple #[.int .i64 r1, .int .i64 r2]) ∧ Below w.heap.size w w' := by
  unfold seal_Own.f at h
  by_cases h0 : a0 ≥ 0
  · rw [if_pos h0] at h
    by_cases h1 : a0 < 60
    · rw [if_pos h1] at h
      cases h
      exact (own_yes a0 h0 h1 w).mono fun _ _ ⟨he, hw⟩ => ⟨he, hw ▸ Below.refl _ _⟩
    · rw [if_neg h1] at h
      cases h
      exact (own_no a0 (.inr (by omega)) w).mono fun _ _ ⟨he, hw⟩ => ⟨he, hw ▸ Below.refl _ _⟩
  · rw [if_neg h0] at h
    cases h
    exact (own_no a0 (.inl (by omega)) w).mono fun _ _ ⟨he, hw⟩ => ⟨he, hw ▸ Below.refl _ _⟩

end Go.Proofs.YtncgeclkgmfppaaDoor.H
