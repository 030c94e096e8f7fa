/-
  Package seal: the own key of a node.
-/
import Derived.Test.YteiiglefbbhinaaProg
import Derived.Test.YteiiglefbbhinaaBase
import Derived.WalkLawsBesides
import Derived.Laws.EntriesVeiled
namespace Go.Proofs.Yteiiglefbbhinaa
open Go.RowKit
set_option linter.unusedVariables false
set_option linter.unusedSimpArgs false
theorem onum_any (a : Int) (h0 : 0 ≤ a) (h1 : a ≤ 1000000000) (w : World) : Calls Try.prog 45 #[.int .i64 a] w fun e w' => e = .returned (.int .i64 (1000000 + a)) ∧ w = w' := by
  go_enter Try.func45, Try.ntmps45
  go_wp2
  go_ret
  exact ⟨rfl, rfl⟩
theorem meth_owner (a : Int) (w : World) : (method 177 57 (.int .i64 a) "slotmesh/seal.number").run Try.prog w = .ok (45, .int .i64 a) w := by kernel_rfl
theorem checked_owner (a : Int) (h0 : 0 ≤ a) (h1 : a ≤ 1000000000) (w : World) : Calls Try.prog 28 #[.iface 57 (.int .i64 a), .bool true] w fun e w' => e = .returned (.tuple #[.int .i64 (1000000 + a), .int .i64 0]) ∧ w = w' := by
  have hm := meth_owner a
  go_enter Try.func28, Try.ntmps28
  go_wp2_with (go_at_call 45; refine (onum_any _ h0 h1 _).mono ?_; rintro e w' ⟨rfl, rfl⟩)
  go_ret2
  exact ⟨rfl, rfl⟩
theorem checked_no (v : Value) (w : World) : Calls Try.prog 28 #[v, .bool false] w fun e w' => e = .returned (.tuple #[.int .i64 0, .int .i64 1]) ∧ w = w' := by
  go_enter Try.func28, Try.ntmps28
  go_wp2
  go_ret2
  exact ⟨rfl, rfl⟩
theorem own_yes (a : Int) (h0 : 0 ≤ a) (h1 : a < 60) (w : World) : Calls Try.prog 26 #[.int .i64 a] w fun e w' => e = .returned (.tuple #[.int .i64 (1000000 + a), .int .i64 0]) ∧ w = w' := by
  have h2 : decide (a < 60) = true := decide_eq_true h1
  go_enter Try.func26, Try.ntmps26
  go_wp2_with (first
    | (go_at_call 28; refine (checked_owner _ (by omega) (by omega) _).mono ?_; rintro e w' ⟨rfl, rfl⟩))
  go_ret2
  exact ⟨rfl, rfl⟩
theorem own_no (a : Int) (h : a < 0 ∨ 60 ≤ a) (w : World) : Calls Try.prog 26 #[.int .i64 a] w fun e w' => e = .returned (.tuple #[.int .i64 0, .int .i64 1]) ∧ w = w' := by
  rcases h with h | h
  · go_enter Try.func26, Try.ntmps26
    go_wp2_with (first
    | (go_at_call 28; refine (checked_no _ _).mono ?_; rintro e w' ⟨rfl, rfl⟩))
    go_ret2
    exact ⟨rfl, rfl⟩
  · have h0 : 0 ≤ a := by omega
    have h1 : decide (a < 60) = false := decide_eq_false (by omega)
    go_enter Try.func26, Try.ntmps26
    go_wp2_with (first
    | (go_at_call 28; refine (checked_no _ _).mono ?_; rintro e w' ⟨rfl, rfl⟩))
    go_ret2
    exact ⟨rfl, rfl⟩

/-- What Own answers. -/
def ownV (a : Int) : Int := if 0 ≤ a ∧ a < 60 then 1000000 + a else 0
def ownE (a : Int) : Int := if 0 ≤ a ∧ a < 60 then 0 else 1
theorem own_all (a : Int) (w : World) : Calls Try.prog 26 #[.int .i64 a] w fun e w' => e = .returned (.tuple #[.int .i64 (ownV a), .int .i64 (ownE a)]) ∧ w = w' := by
  by_cases h : 0 ≤ a ∧ a < 60
  · unfold ownV ownE; rw [if_pos h, if_pos h]; exact own_yes a h.1 h.2 w
  · unfold ownV ownE; rw [if_neg h, if_neg h]; exact own_no a (by omega) w
end Go.Proofs.Yteiiglefbbhinaa
