/-
  Nodes and valid states: the words.
-/
import Derived.Test.YteiiglefbbhinaaProg
import Derived.Test.YteiiglefbbhinaaBase
import Derived.WalkLawsBesides
import Derived.BigQuiet
import Derived.Deep.RegionHeld3
import Derived.Laws.EntriesVeiled
import Derived.RowKit3
import Derived.LoopTactic
import Derived.Lib.Hide
namespace Go.Proofs.Yteiiglefbbhinaa
open Go.RowKit
set_option linter.unusedVariables false
set_option linter.unusedSimpArgs false
/-- A node's number. -/
def nodeB (n : Int) : Bool := decide (0 ≤ n ∧ n < 60)
theorem node_all (a : Int) (w : World) : Calls Try.prog 23 #[.int .i64 a] w fun e w' => e = .returned (.bool (nodeB a)) ∧ w = w' := by
  unfold nodeB
  by_cases h0 : 0 ≤ a
  · by_cases h1 : a < 60
    · rw [decide_eq_true (⟨h0, h1⟩ : 0 ≤ a ∧ a < 60)]
      have h2 : decide (a < 60) = true := decide_eq_true h1
      go_enter Try.func23, Try.ntmps23
      go_wp2
      go_ret
      exact ⟨rfl, rfl⟩
    · rw [decide_eq_false (fun h : 0 ≤ a ∧ a < 60 => h1 h.2)]
      have h2 : decide (a < 60) = false := decide_eq_false h1
      go_enter Try.func23, Try.ntmps23
      go_wp2
      go_ret
      exact ⟨rfl, rfl⟩
  · rw [decide_eq_false (fun h : 0 ≤ a ∧ a < 60 => h0 h.1)]
    have h2 : decide (0 ≤ a) = false := decide_eq_false h0
    go_enter Try.func23, Try.ntmps23
    go_wp2
    go_ret
    exact ⟨rfl, rfl⟩
theorem rid_all (a : Int) (w : World) : Calls Try.prog 24 #[.int .i64 a] w fun e w' => e = .returned (.bool (nodeB a)) ∧ w = w' := by
  unfold nodeB
  by_cases h0 : 0 ≤ a
  · by_cases h1 : a < 60
    · rw [decide_eq_true (⟨h0, h1⟩ : 0 ≤ a ∧ a < 60)]
      have h2 : decide (a < 60) = true := decide_eq_true h1
      go_enter Try.func24, Try.ntmps24
      go_wp2
      go_ret
      exact ⟨rfl, rfl⟩
    · rw [decide_eq_false (fun h : 0 ≤ a ∧ a < 60 => h1 h.2)]
      have h2 : decide (a < 60) = false := decide_eq_false h1
      go_enter Try.func24, Try.ntmps24
      go_wp2
      go_ret
      exact ⟨rfl, rfl⟩
  · rw [decide_eq_false (fun h : 0 ≤ a ∧ a < 60 => h0 h.1)]
    have h2 : decide (0 ≤ a) = false := decide_eq_false h0
    go_enter Try.func24, Try.ntmps24
    go_wp2
    go_ret
    exact ⟨rfl, rfl⟩
theorem rown (a : Int) (h0 : 0 ≤ a) (h1 : a < 60) (w : World) : Calls Try.prog 20 #[.int .i64 a] w fun e w' => e = .returned (.int .i64 (1000000 + a)) ∧ w = w' := by
  go_enter Try.func20, Try.ntmps20
  go_wp2
  go_ret
  exact ⟨rfl, rfl⟩
/-- A valid state. -/
def validB (ph sp no si tr : Int) : Bool := decide (0 ≤ ph ∧ ph ≤ 3 ∧ 0 ≤ tr ∧ tr ≤ 255 ∧ 0 ≤ si ∧ si ≤ 1000000000 ∧ 0 ≤ no ∧ no ≤ 1000000000 ∧ -1 ≤ sp ∧ sp < 60)
end Go.Proofs.Yteiiglefbbhinaa
