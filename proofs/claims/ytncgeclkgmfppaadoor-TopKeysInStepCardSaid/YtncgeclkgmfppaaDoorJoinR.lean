/-
  What the join's functions compute, from any memory: asking, hearing a challenge, hearing a welcome, judging a proof.
-/
import Derived.Test.YtncgeclkgmfppaaDoorProg
import Derived.WalkKit
import Derived.WalkSpells
import Derived.Below
import Derived.Deep.QuietTactic
import Derived.WalkLawsBesides
import Derived.Laws.EntriesVeiled
import Derived.BigQuiet
import Derived.Deep.RegionHeld3
import Derived.RowKit3
import Derived.LoopTactic
import Derived.Lib.Hide
namespace Go.Proofs.YtncgeclkgmfppaaDoor
open Go.RowKit
set_option linter.unusedVariables false
set_option linter.unusedSimpArgs false
theorem below_drewN' {B : Nat} {a w : World} (h : Below B a w) (n : Nat) : Below B a (w.drewN n) := ⟨h.os, h.tape, h.output, h.size, h.block⟩
theorem bs_step {w W w' : World} (h : Below w.heap.size w W) (hb : Below W.heap.size W w') : Below w.heap.size w w' := h.trans (hb.mono h.size)
theorem bs_alloc {w W : World} (h : Below w.heap.size w W) (o : Obj) : Below w.heap.size w (W.alloc o) := h.alloc h.size o
theorem bs_drew {w W : World} (h : Below w.heap.size w W) : Below w.heap.size w W.drew := h.drew
theorem bs_drewN {w W : World} (h : Below w.heap.size w W) (n : Nat) : Below w.heap.size w (W.drewN n) := below_drewN' h n
theorem bs_set {w W : World} (h : Below w.heap.size w W) {p : Addr} (v : Value) (hp : w.heap.size ≤ p.block) : Below w.heap.size w (W.setCell p v) := h.setCell hp v

theorem onum_any (a : Int) (h0 : 0 ≤ a) (h1 : a ≤ 1000000000) (w : World) : Calls Tryd.prog 144 #[.int .i64 a] w fun e w' => e = .returned (.int .i64 (1000000 + a)) ∧ w = w' := by
  go_enter Tryd.func144, Tryd.ntmps144
  go_wp2
  go_ret
  exact ⟨rfl, rfl⟩
theorem meth_owner (a : Int) (w : World) : (method 284 138 (.int .i64 a) "slotmesh/seal.number").run Tryd.prog w = .ok (144, .int .i64 a) w := by kernel_rfl
theorem checked_owner (a : Int) (h0 : 0 ≤ a) (h1 : a ≤ 1000000000) (w : World) : Calls Tryd.prog 85 #[.iface 138 (.int .i64 a), .bool true] w fun e w' => e = .returned (.tuple #[.int .i64 (1000000 + a), .int .i64 0]) ∧ w = w' := by
  have hm := meth_owner a
  go_enter Tryd.func85, Tryd.ntmps85
  go_wp2_with (go_at_call 144; refine (onum_any _ h0 h1 _).mono ?_; rintro e w' ⟨rfl, rfl⟩)
  go_ret2
  exact ⟨rfl, rfl⟩
theorem own_yes (a : Int) (h0 : 0 ≤ a) (h1 : a < 60) (w : World) : Calls Tryd.prog 82 #[.int .i64 a] w fun e w' => e = .returned (.tuple #[.int .i64 (1000000 + a), .int .i64 0]) ∧ w = w' := by
  have h2 : decide (a < 60) = true := decide_eq_true h1
  go_enter Tryd.func82, Tryd.ntmps82
  go_wp2_with (first
    | (go_at_call 85; refine (checked_owner _ (by omega) (by omega) _).mono ?_; rintro e w' ⟨rfl, rfl⟩))
  go_ret2
  exact ⟨rfl, rfl⟩
/-- A node's number. -/
def nodeB (n : Int) : Bool := decide (0 ≤ n ∧ n < 60)
theorem node_all (a : Int) (w : World) : Calls Tryd.prog 80 #[.int .i64 a] w fun e w' => e = .returned (.bool (nodeB a)) ∧ w = w' := by
  unfold nodeB
  by_cases h0 : 0 ≤ a
  · by_cases h1 : a < 60
    · rw [decide_eq_true (⟨h0, h1⟩ : 0 ≤ a ∧ a < 60)]
      have h2 : decide (a < 60) = true := decide_eq_true h1
      go_enter Tryd.func80, Tryd.ntmps80
      go_wp2
      go_ret
      exact ⟨rfl, rfl⟩
    · rw [decide_eq_false (fun h : 0 ≤ a ∧ a < 60 => h1 h.2)]
      have h2 : decide (a < 60) = false := decide_eq_false h1
      go_enter Tryd.func80, Tryd.ntmps80
      go_wp2
      go_ret
      exact ⟨rfl, rfl⟩
  · rw [decide_eq_false (fun h : 0 ≤ a ∧ a < 60 => h0 h.1)]
    have h2 : decide (0 ≤ a) = false := decide_eq_false h0
    go_enter Tryd.func80, Tryd.ntmps80
    go_wp2
    go_ret
    exact ⟨rfl, rfl⟩
/-- A valid state. -/
def validB (ph sp no si tr : Int) : Bool := decide (0 ≤ ph ∧ ph ≤ 3 ∧ 0 ≤ tr ∧ tr ≤ 255 ∧ 0 ≤ si ∧ si ≤ 1000000000 ∧ 0 ≤ no ∧ no ≤ 1000000000 ∧ -1 ≤ sp ∧ sp < 60)

set_option maxHeartbeats 2000000 in
set_option maxRecDepth 100000 in
theorem valid_0 (B : Nat) (ph sp no si tr : Int) (w : World) (c0 : w.cell? ⟨B, 0, none⟩ = some (.int .i64 ph)) (c1 : w.cell? ⟨B, 1, none⟩ = some (.int .i64 sp)) (c2 : w.cell? ⟨B, 2, none⟩ = some (.int .i64 no)) (c3 : w.cell? ⟨B, 3, none⟩ = some (.int .i64 si)) (c4 : w.cell? ⟨B, 4, none⟩ = some (.int .i64 tr))  (g0 : ¬ 0 ≤ ph) : Calls Tryd.prog 79 #[.pointer (some ⟨B, 0, none⟩)] w fun e w' => e = .returned (.bool false) ∧ w = w' := by
  have t0 : decide (0 ≤ ph) = false := decide_eq_false g0
  go_enter Tryd.func79, Tryd.ntmps79
  go_wp2
  go_ret
  exact ⟨rfl, rfl⟩
set_option maxHeartbeats 2000000 in
set_option maxRecDepth 100000 in
theorem valid_1 (B : Nat) (ph sp no si tr : Int) (w : World) (c0 : w.cell? ⟨B, 0, none⟩ = some (.int .i64 ph)) (c1 : w.cell? ⟨B, 1, none⟩ = some (.int .i64 sp)) (c2 : w.cell? ⟨B, 2, none⟩ = some (.int .i64 no)) (c3 : w.cell? ⟨B, 3, none⟩ = some (.int .i64 si)) (c4 : w.cell? ⟨B, 4, none⟩ = some (.int .i64 tr)) (g0 : 0 ≤ ph) (g1 : ¬ ph ≤ 3) : Calls Tryd.prog 79 #[.pointer (some ⟨B, 0, none⟩)] w fun e w' => e = .returned (.bool false) ∧ w = w' := by
  have t0 : decide (0 ≤ ph) = true := decide_eq_true g0
  have t1 : decide (ph ≤ 3) = false := decide_eq_false g1
  go_enter Tryd.func79, Tryd.ntmps79
  go_wp2
  go_ret
  exact ⟨rfl, rfl⟩
set_option maxHeartbeats 2000000 in
set_option maxRecDepth 100000 in
theorem valid_2 (B : Nat) (ph sp no si tr : Int) (w : World) (c0 : w.cell? ⟨B, 0, none⟩ = some (.int .i64 ph)) (c1 : w.cell? ⟨B, 1, none⟩ = some (.int .i64 sp)) (c2 : w.cell? ⟨B, 2, none⟩ = some (.int .i64 no)) (c3 : w.cell? ⟨B, 3, none⟩ = some (.int .i64 si)) (c4 : w.cell? ⟨B, 4, none⟩ = some (.int .i64 tr)) (g0 : 0 ≤ ph) (g1 : ph ≤ 3) (g2 : ¬ 0 ≤ tr) : Calls Tryd.prog 79 #[.pointer (some ⟨B, 0, none⟩)] w fun e w' => e = .returned (.bool false) ∧ w = w' := by
  have t0 : decide (0 ≤ ph) = true := decide_eq_true g0
  have t1 : decide (ph ≤ 3) = true := decide_eq_true g1
  have t2 : decide (0 ≤ tr) = false := decide_eq_false g2
  go_enter Tryd.func79, Tryd.ntmps79
  go_wp2
  go_ret
  exact ⟨rfl, rfl⟩
set_option maxHeartbeats 2000000 in
set_option maxRecDepth 100000 in
theorem valid_3 (B : Nat) (ph sp no si tr : Int) (w : World) (c0 : w.cell? ⟨B, 0, none⟩ = some (.int .i64 ph)) (c1 : w.cell? ⟨B, 1, none⟩ = some (.int .i64 sp)) (c2 : w.cell? ⟨B, 2, none⟩ = some (.int .i64 no)) (c3 : w.cell? ⟨B, 3, none⟩ = some (.int .i64 si)) (c4 : w.cell? ⟨B, 4, none⟩ = some (.int .i64 tr)) (g0 : 0 ≤ ph) (g1 : ph ≤ 3) (g2 : 0 ≤ tr) (g3 : ¬ tr ≤ 255) : Calls Tryd.prog 79 #[.pointer (some ⟨B, 0, none⟩)] w fun e w' => e = .returned (.bool false) ∧ w = w' := by
  have t0 : decide (0 ≤ ph) = true := decide_eq_true g0
  have t1 : decide (ph ≤ 3) = true := decide_eq_true g1
  have t2 : decide (0 ≤ tr) = true := decide_eq_true g2
  have t3 : decide (tr ≤ 255) = false := decide_eq_false g3
  go_enter Tryd.func79, Tryd.ntmps79
  go_wp2
  go_ret
  exact ⟨rfl, rfl⟩
set_option maxHeartbeats 2000000 in
set_option maxRecDepth 100000 in
theorem valid_4 (B : Nat) (ph sp no si tr : Int) (w : World) (c0 : w.cell? ⟨B, 0, none⟩ = some (.int .i64 ph)) (c1 : w.cell? ⟨B, 1, none⟩ = some (.int .i64 sp)) (c2 : w.cell? ⟨B, 2, none⟩ = some (.int .i64 no)) (c3 : w.cell? ⟨B, 3, none⟩ = some (.int .i64 si)) (c4 : w.cell? ⟨B, 4, none⟩ = some (.int .i64 tr)) (g0 : 0 ≤ ph) (g1 : ph ≤ 3) (g2 : 0 ≤ tr) (g3 : tr ≤ 255) (g4 : ¬ 0 ≤ si) : Calls Tryd.prog 79 #[.pointer (some ⟨B, 0, none⟩)] w fun e w' => e = .returned (.bool false) ∧ w = w' := by
  have t0 : decide (0 ≤ ph) = true := decide_eq_true g0
  have t1 : decide (ph ≤ 3) = true := decide_eq_true g1
  have t2 : decide (0 ≤ tr) = true := decide_eq_true g2
  have t3 : decide (tr ≤ 255) = true := decide_eq_true g3
  have t4 : decide (0 ≤ si) = false := decide_eq_false g4
  go_enter Tryd.func79, Tryd.ntmps79
  go_wp2
  go_ret
  exact ⟨rfl, rfl⟩
set_option maxHeartbeats 2000000 in
set_option maxRecDepth 100000 in
theorem valid_5 (B : Nat) (ph sp no si tr : Int) (w : World) (c0 : w.cell? ⟨B, 0, none⟩ = some (.int .i64 ph)) (c1 : w.cell? ⟨B, 1, none⟩ = some (.int .i64 sp)) (c2 : w.cell? ⟨B, 2, none⟩ = some (.int .i64 no)) (c3 : w.cell? ⟨B, 3, none⟩ = some (.int .i64 si)) (c4 : w.cell? ⟨B, 4, none⟩ = some (.int .i64 tr)) (g0 : 0 ≤ ph) (g1 : ph ≤ 3) (g2 : 0 ≤ tr) (g3 : tr ≤ 255) (g4 : 0 ≤ si) (g5 : ¬ si ≤ 1000000000) : Calls Tryd.prog 79 #[.pointer (some ⟨B, 0, none⟩)] w fun e w' => e = .returned (.bool false) ∧ w = w' := by
  have t0 : decide (0 ≤ ph) = true := decide_eq_true g0
  have t1 : decide (ph ≤ 3) = true := decide_eq_true g1
  have t2 : decide (0 ≤ tr) = true := decide_eq_true g2
  have t3 : decide (tr ≤ 255) = true := decide_eq_true g3
  have t4 : decide (0 ≤ si) = true := decide_eq_true g4
  have t5 : decide (si ≤ 1000000000) = false := decide_eq_false g5
  go_enter Tryd.func79, Tryd.ntmps79
  go_wp2
  go_ret
  exact ⟨rfl, rfl⟩
set_option maxHeartbeats 2000000 in
set_option maxRecDepth 100000 in
theorem valid_6 (B : Nat) (ph sp no si tr : Int) (w : World) (c0 : w.cell? ⟨B, 0, none⟩ = some (.int .i64 ph)) (c1 : w.cell? ⟨B, 1, none⟩ = some (.int .i64 sp)) (c2 : w.cell? ⟨B, 2, none⟩ = some (.int .i64 no)) (c3 : w.cell? ⟨B, 3, none⟩ = some (.int .i64 si)) (c4 : w.cell? ⟨B, 4, none⟩ = some (.int .i64 tr)) (g0 : 0 ≤ ph) (g1 : ph ≤ 3) (g2 : 0 ≤ tr) (g3 : tr ≤ 255) (g4 : 0 ≤ si) (g5 : si ≤ 1000000000) (g6 : ¬ 0 ≤ no) : Calls Tryd.prog 79 #[.pointer (some ⟨B, 0, none⟩)] w fun e w' => e = .returned (.bool false) ∧ w = w' := by
  have t0 : decide (0 ≤ ph) = true := decide_eq_true g0
  have t1 : decide (ph ≤ 3) = true := decide_eq_true g1
  have t2 : decide (0 ≤ tr) = true := decide_eq_true g2
  have t3 : decide (tr ≤ 255) = true := decide_eq_true g3
  have t4 : decide (0 ≤ si) = true := decide_eq_true g4
  have t5 : decide (si ≤ 1000000000) = true := decide_eq_true g5
  have t6 : decide (0 ≤ no) = false := decide_eq_false g6
  go_enter Tryd.func79, Tryd.ntmps79
  go_wp2
  go_ret
  exact ⟨rfl, rfl⟩
set_option maxHeartbeats 2000000 in
set_option maxRecDepth 100000 in
theorem valid_7 (B : Nat) (ph sp no si tr : Int) (w : World) (c0 : w.cell? ⟨B, 0, none⟩ = some (.int .i64 ph)) (c1 : w.cell? ⟨B, 1, none⟩ = some (.int .i64 sp)) (c2 : w.cell? ⟨B, 2, none⟩ = some (.int .i64 no)) (c3 : w.cell? ⟨B, 3, none⟩ = some (.int .i64 si)) (c4 : w.cell? ⟨B, 4, none⟩ = some (.int .i64 tr)) (g0 : 0 ≤ ph) (g1 : ph ≤ 3) (g2 : 0 ≤ tr) (g3 : tr ≤ 255) (g4 : 0 ≤ si) (g5 : si ≤ 1000000000) (g6 : 0 ≤ no) (g7 : ¬ no ≤ 1000000000) : Calls Tryd.prog 79 #[.pointer (some ⟨B, 0, none⟩)] w fun e w' => e = .returned (.bool false) ∧ w = w' := by
  have t0 : decide (0 ≤ ph) = true := decide_eq_true g0
  have t1 : decide (ph ≤ 3) = true := decide_eq_true g1
  have t2 : decide (0 ≤ tr) = true := decide_eq_true g2
  have t3 : decide (tr ≤ 255) = true := decide_eq_true g3
  have t4 : decide (0 ≤ si) = true := decide_eq_true g4
  have t5 : decide (si ≤ 1000000000) = true := decide_eq_true g5
  have t6 : decide (0 ≤ no) = true := decide_eq_true g6
  have t7 : decide (no ≤ 1000000000) = false := decide_eq_false g7
  go_enter Tryd.func79, Tryd.ntmps79
  go_wp2
  go_ret
  exact ⟨rfl, rfl⟩
set_option maxHeartbeats 2000000 in
set_option maxRecDepth 100000 in
theorem valid_8 (B : Nat) (ph sp no si tr : Int) (w : World) (c0 : w.cell? ⟨B, 0, none⟩ = some (.int .i64 ph)) (c1 : w.cell? ⟨B, 1, none⟩ = some (.int .i64 sp)) (c2 : w.cell? ⟨B, 2, none⟩ = some (.int .i64 no)) (c3 : w.cell? ⟨B, 3, none⟩ = some (.int .i64 si)) (c4 : w.cell? ⟨B, 4, none⟩ = some (.int .i64 tr)) (g0 : 0 ≤ ph) (g1 : ph ≤ 3) (g2 : 0 ≤ tr) (g3 : tr ≤ 255) (g4 : 0 ≤ si) (g5 : si ≤ 1000000000) (g6 : 0 ≤ no) (g7 : no ≤ 1000000000) (g8 : ¬ -1 ≤ sp) : Calls Tryd.prog 79 #[.pointer (some ⟨B, 0, none⟩)] w fun e w' => e = .returned (.bool false) ∧ w = w' := by
  have t0 : decide (0 ≤ ph) = true := decide_eq_true g0
  have t1 : decide (ph ≤ 3) = true := decide_eq_true g1
  have t2 : decide (0 ≤ tr) = true := decide_eq_true g2
  have t3 : decide (tr ≤ 255) = true := decide_eq_true g3
  have t4 : decide (0 ≤ si) = true := decide_eq_true g4
  have t5 : decide (si ≤ 1000000000) = true := decide_eq_true g5
  have t6 : decide (0 ≤ no) = true := decide_eq_true g6
  have t7 : decide (no ≤ 1000000000) = true := decide_eq_true g7
  have t8 : decide (-1 ≤ sp) = false := decide_eq_false g8
  go_enter Tryd.func79, Tryd.ntmps79
  go_wp2
  go_ret
  exact ⟨rfl, rfl⟩
set_option maxHeartbeats 2000000 in
set_option maxRecDepth 100000 in
theorem valid_9 (B : Nat) (ph sp no si tr : Int) (w : World) (c0 : w.cell? ⟨B, 0, none⟩ = some (.int .i64 ph)) (c1 : w.cell? ⟨B, 1, none⟩ = some (.int .i64 sp)) (c2 : w.cell? ⟨B, 2, none⟩ = some (.int .i64 no)) (c3 : w.cell? ⟨B, 3, none⟩ = some (.int .i64 si)) (c4 : w.cell? ⟨B, 4, none⟩ = some (.int .i64 tr)) (g0 : 0 ≤ ph) (g1 : ph ≤ 3) (g2 : 0 ≤ tr) (g3 : tr ≤ 255) (g4 : 0 ≤ si) (g5 : si ≤ 1000000000) (g6 : 0 ≤ no) (g7 : no ≤ 1000000000) (g8 : -1 ≤ sp) (g9 : ¬ sp < 60) : Calls Tryd.prog 79 #[.pointer (some ⟨B, 0, none⟩)] w fun e w' => e = .returned (.bool false) ∧ w = w' := by
  have t0 : decide (0 ≤ ph) = true := decide_eq_true g0
  have t1 : decide (ph ≤ 3) = true := decide_eq_true g1
  have t2 : decide (0 ≤ tr) = true := decide_eq_true g2
  have t3 : decide (tr ≤ 255) = true := decide_eq_true g3
  have t4 : decide (0 ≤ si) = true := decide_eq_true g4
  have t5 : decide (si ≤ 1000000000) = true := decide_eq_true g5
  have t6 : decide (0 ≤ no) = true := decide_eq_true g6
  have t7 : decide (no ≤ 1000000000) = true := decide_eq_true g7
  have t8 : decide (-1 ≤ sp) = true := decide_eq_true g8
  have t9 : decide (sp < 60) = false := decide_eq_false g9
  go_enter Tryd.func79, Tryd.ntmps79
  go_wp2
  go_ret
  exact ⟨rfl, rfl⟩
set_option maxHeartbeats 2000000 in
set_option maxRecDepth 100000 in
theorem valid_10 (B : Nat) (ph sp no si tr : Int) (w : World) (c0 : w.cell? ⟨B, 0, none⟩ = some (.int .i64 ph)) (c1 : w.cell? ⟨B, 1, none⟩ = some (.int .i64 sp)) (c2 : w.cell? ⟨B, 2, none⟩ = some (.int .i64 no)) (c3 : w.cell? ⟨B, 3, none⟩ = some (.int .i64 si)) (c4 : w.cell? ⟨B, 4, none⟩ = some (.int .i64 tr)) (g0 : 0 ≤ ph) (g1 : ph ≤ 3) (g2 : 0 ≤ tr) (g3 : tr ≤ 255) (g4 : 0 ≤ si) (g5 : si ≤ 1000000000) (g6 : 0 ≤ no) (g7 : no ≤ 1000000000) (g8 : -1 ≤ sp) (g9 : sp < 60) : Calls Tryd.prog 79 #[.pointer (some ⟨B, 0, none⟩)] w fun e w' => e = .returned (.bool true) ∧ w = w' := by
  have t0 : decide (0 ≤ ph) = true := decide_eq_true g0
  have t1 : decide (ph ≤ 3) = true := decide_eq_true g1
  have t2 : decide (0 ≤ tr) = true := decide_eq_true g2
  have t3 : decide (tr ≤ 255) = true := decide_eq_true g3
  have t4 : decide (0 ≤ si) = true := decide_eq_true g4
  have t5 : decide (si ≤ 1000000000) = true := decide_eq_true g5
  have t6 : decide (0 ≤ no) = true := decide_eq_true g6
  have t7 : decide (no ≤ 1000000000) = true := decide_eq_true g7
  have t8 : decide (-1 ≤ sp) = true := decide_eq_true g8
  have t9 : decide (sp < 60) = true := decide_eq_true g9
  go_enter Tryd.func79, Tryd.ntmps79
  go_wp2
  go_ret
  exact ⟨rfl, rfl⟩
theorem valid_all (B : Nat) (ph sp no si tr : Int) (w : World) (c0 : w.cell? ⟨B, 0, none⟩ = some (.int .i64 ph)) (c1 : w.cell? ⟨B, 1, none⟩ = some (.int .i64 sp)) (c2 : w.cell? ⟨B, 2, none⟩ = some (.int .i64 no)) (c3 : w.cell? ⟨B, 3, none⟩ = some (.int .i64 si)) (c4 : w.cell? ⟨B, 4, none⟩ = some (.int .i64 tr)) : Calls Tryd.prog 79 #[.pointer (some ⟨B, 0, none⟩)] w fun e w' => e = .returned (.bool (validB ph sp no si tr)) ∧ w = w' := by
  unfold validB
  by_cases g0 : 0 ≤ ph
  rotate_left
  · rw [decide_eq_false (fun h => g0 h.1)]; exact valid_0 B ph sp no si tr w c0 c1 c2 c3 c4 g0
  by_cases g1 : ph ≤ 3
  rotate_left
  · rw [decide_eq_false (fun h => g1 h.2.1)]; exact valid_1 B ph sp no si tr w c0 c1 c2 c3 c4 g0 g1
  by_cases g2 : 0 ≤ tr
  rotate_left
  · rw [decide_eq_false (fun h => g2 h.2.2.1)]; exact valid_2 B ph sp no si tr w c0 c1 c2 c3 c4 g0 g1 g2
  by_cases g3 : tr ≤ 255
  rotate_left
  · rw [decide_eq_false (fun h => g3 h.2.2.2.1)]; exact valid_3 B ph sp no si tr w c0 c1 c2 c3 c4 g0 g1 g2 g3
  by_cases g4 : 0 ≤ si
  rotate_left
  · rw [decide_eq_false (fun h => g4 h.2.2.2.2.1)]; exact valid_4 B ph sp no si tr w c0 c1 c2 c3 c4 g0 g1 g2 g3 g4
  by_cases g5 : si ≤ 1000000000
  rotate_left
  · rw [decide_eq_false (fun h => g5 h.2.2.2.2.2.1)]; exact valid_5 B ph sp no si tr w c0 c1 c2 c3 c4 g0 g1 g2 g3 g4 g5
  by_cases g6 : 0 ≤ no
  rotate_left
  · rw [decide_eq_false (fun h => g6 h.2.2.2.2.2.2.1)]; exact valid_6 B ph sp no si tr w c0 c1 c2 c3 c4 g0 g1 g2 g3 g4 g5 g6
  by_cases g7 : no ≤ 1000000000
  rotate_left
  · rw [decide_eq_false (fun h => g7 h.2.2.2.2.2.2.2.1)]; exact valid_7 B ph sp no si tr w c0 c1 c2 c3 c4 g0 g1 g2 g3 g4 g5 g6 g7
  by_cases g8 : -1 ≤ sp
  rotate_left
  · rw [decide_eq_false (fun h => g8 h.2.2.2.2.2.2.2.2.1)]; exact valid_8 B ph sp no si tr w c0 c1 c2 c3 c4 g0 g1 g2 g3 g4 g5 g6 g7 g8
  by_cases g9 : sp < 60
  rotate_left
  · rw [decide_eq_false (fun h => g9 h.2.2.2.2.2.2.2.2.2)]; exact valid_9 B ph sp no si tr w c0 c1 c2 c3 c4 g0 g1 g2 g3 g4 g5 g6 g7 g8 g9
  rw [decide_eq_true (show 0 ≤ ph ∧ ph ≤ 3 ∧ 0 ≤ tr ∧ tr ≤ 255 ∧ 0 ≤ si ∧ si ≤ 1000000000 ∧ 0 ≤ no ∧ no ≤ 1000000000 ∧ -1 ≤ sp ∧ sp < 60 from ⟨g0, g1, g2, g3, g4, g5, g6, g7, g8, g9⟩)]; exact valid_10 B ph sp no si tr w c0 c1 c2 c3 c4 g0 g1 g2 g3 g4 g5 g6 g7 g8 g9

/-- A well-formed word. -/
def formedB (k st ws wn ch : Int) : Bool := decide (nodeB st = true ∧ nodeB ws = true ∧ st ≠ ws ∧ 0 ≤ wn ∧ wn ≤ 1000000000 ∧ 0 ≤ ch ∧ ch ≤ 1000000000 ∧ 1 ≤ k ∧ k ≤ 4)
set_option maxHeartbeats 2000000 in
set_option maxRecDepth 100000 in
theorem formed_0 (k st ws wn ch key f n : Int) (w : World)  (g0 : nodeB st = false) : Calls Tryd.prog 83 #[.agg #[.int .i64 k, .int .i64 st, .int .i64 ws, .int .i64 wn, .int .i64 ch, .int .i64 key, .int .i64 f, .int .i64 n]] w fun e w' => e = .returned (.bool false) ∧ w.alloc (.cells #[.int .i64 k, .int .i64 st, .int .i64 ws, .int .i64 wn, .int .i64 ch, .int .i64 key, .int .i64 f, .int .i64 n] 54) = w' := by
  go_enter Tryd.func83, Tryd.ntmps83
  go_wp2_with (go_at_call 80; refine (node_all _ _).mono ?_; rintro e w' ⟨rfl, rfl⟩)
  all_goals first | (go_ret; exact ⟨by first | rfl | (simp; done), rfl⟩) | (exfalso; omega)
set_option maxHeartbeats 2000000 in
set_option maxRecDepth 100000 in
theorem formed_1 (k st ws wn ch key f n : Int) (w : World) (g0 : nodeB st = true) (g1 : nodeB ws = false) : Calls Tryd.prog 83 #[.agg #[.int .i64 k, .int .i64 st, .int .i64 ws, .int .i64 wn, .int .i64 ch, .int .i64 key, .int .i64 f, .int .i64 n]] w fun e w' => e = .returned (.bool false) ∧ w.alloc (.cells #[.int .i64 k, .int .i64 st, .int .i64 ws, .int .i64 wn, .int .i64 ch, .int .i64 key, .int .i64 f, .int .i64 n] 54) = w' := by
  go_enter Tryd.func83, Tryd.ntmps83
  go_wp2_with (go_at_call 80; refine (node_all _ _).mono ?_; rintro e w' ⟨rfl, rfl⟩)
  all_goals first | (go_ret; exact ⟨by first | rfl | (simp; done), rfl⟩) | (exfalso; omega)
set_option maxHeartbeats 2000000 in
set_option maxRecDepth 100000 in
theorem formed_2 (k st ws wn ch key f n : Int) (w : World) (g0 : nodeB st = true) (g1 : nodeB ws = true) (g2 : ¬ (st ≠ ws)) : Calls Tryd.prog 83 #[.agg #[.int .i64 k, .int .i64 st, .int .i64 ws, .int .i64 wn, .int .i64 ch, .int .i64 key, .int .i64 f, .int .i64 n]] w fun e w' => e = .returned (.bool false) ∧ w.alloc (.cells #[.int .i64 k, .int .i64 st, .int .i64 ws, .int .i64 wn, .int .i64 ch, .int .i64 key, .int .i64 f, .int .i64 n] 54) = w' := by
  have t2 : (st != ws) = false := by rw [bne_eq_false_iff_eq]; omega
  clear g2
  go_enter Tryd.func83, Tryd.ntmps83
  go_wp2_with (go_at_call 80; refine (node_all _ _).mono ?_; rintro e w' ⟨rfl, rfl⟩)
  all_goals first | (go_ret; exact ⟨by first | rfl | (simp; done), rfl⟩) | (exfalso; omega)
set_option maxHeartbeats 2000000 in
set_option maxRecDepth 100000 in
theorem formed_3 (k st ws wn ch key f n : Int) (w : World) (g0 : nodeB st = true) (g1 : nodeB ws = true) (g2 : st ≠ ws) (g3 : ¬ (0 ≤ min wn ch)) : Calls Tryd.prog 83 #[.agg #[.int .i64 k, .int .i64 st, .int .i64 ws, .int .i64 wn, .int .i64 ch, .int .i64 key, .int .i64 f, .int .i64 n]] w fun e w' => e = .returned (.bool false) ∧ w.alloc (.cells #[.int .i64 k, .int .i64 st, .int .i64 ws, .int .i64 wn, .int .i64 ch, .int .i64 key, .int .i64 f, .int .i64 n] 54) = w' := by
  have t2 : (st != ws) = true := by rw [bne_iff_ne]; exact g2
  clear g2
  have t3 : decide (0 ≤ min wn ch) = false := decide_eq_false g3
  go_enter Tryd.func83, Tryd.ntmps83
  go_wp2_with (go_at_call 80; refine (node_all _ _).mono ?_; rintro e w' ⟨rfl, rfl⟩)
  all_goals first | (go_ret; exact ⟨by first | rfl | (simp; done), rfl⟩) | (exfalso; omega)
set_option maxHeartbeats 2000000 in
set_option maxRecDepth 100000 in
theorem formed_4 (k st ws wn ch key f n : Int) (w : World) (g0 : nodeB st = true) (g1 : nodeB ws = true) (g2 : st ≠ ws) (g3 : 0 ≤ min wn ch) (g4 : ¬ (max wn ch ≤ 1000000000)) : Calls Tryd.prog 83 #[.agg #[.int .i64 k, .int .i64 st, .int .i64 ws, .int .i64 wn, .int .i64 ch, .int .i64 key, .int .i64 f, .int .i64 n]] w fun e w' => e = .returned (.bool false) ∧ w.alloc (.cells #[.int .i64 k, .int .i64 st, .int .i64 ws, .int .i64 wn, .int .i64 ch, .int .i64 key, .int .i64 f, .int .i64 n] 54) = w' := by
  have t2 : (st != ws) = true := by rw [bne_iff_ne]; exact g2
  clear g2
  have t3 : decide (0 ≤ min wn ch) = true := decide_eq_true g3
  have t4 : decide (max wn ch ≤ 1000000000) = false := decide_eq_false g4
  go_enter Tryd.func83, Tryd.ntmps83
  go_wp2_with (go_at_call 80; refine (node_all _ _).mono ?_; rintro e w' ⟨rfl, rfl⟩)
  all_goals first | (go_ret; exact ⟨by first | rfl | (simp; done), rfl⟩) | (exfalso; omega)
set_option maxHeartbeats 2000000 in
set_option maxRecDepth 100000 in
theorem formed_5 (k st ws wn ch key f n : Int) (w : World) (g0 : nodeB st = true) (g1 : nodeB ws = true) (g2 : st ≠ ws) (g3 : 0 ≤ min wn ch) (g4 : max wn ch ≤ 1000000000) (g5 : ¬ (1 ≤ k)) : Calls Tryd.prog 83 #[.agg #[.int .i64 k, .int .i64 st, .int .i64 ws, .int .i64 wn, .int .i64 ch, .int .i64 key, .int .i64 f, .int .i64 n]] w fun e w' => e = .returned (.bool false) ∧ w.alloc (.cells #[.int .i64 k, .int .i64 st, .int .i64 ws, .int .i64 wn, .int .i64 ch, .int .i64 key, .int .i64 f, .int .i64 n] 54) = w' := by
  have t2 : (st != ws) = true := by rw [bne_iff_ne]; exact g2
  clear g2
  have t3 : decide (0 ≤ min wn ch) = true := decide_eq_true g3
  have t4 : decide (max wn ch ≤ 1000000000) = true := decide_eq_true g4
  have t5 : decide (1 ≤ k) = false := decide_eq_false g5
  go_enter Tryd.func83, Tryd.ntmps83
  go_wp2_with (go_at_call 80; refine (node_all _ _).mono ?_; rintro e w' ⟨rfl, rfl⟩)
  all_goals first | (go_ret; exact ⟨by first | rfl | (simp; done), rfl⟩) | (exfalso; omega)
set_option maxHeartbeats 2000000 in
set_option maxRecDepth 100000 in
theorem formed_6 (k st ws wn ch key f n : Int) (w : World) (g0 : nodeB st = true) (g1 : nodeB ws = true) (g2 : st ≠ ws) (g3 : 0 ≤ min wn ch) (g4 : max wn ch ≤ 1000000000) (g5 : 1 ≤ k) (g6 : ¬ (k ≤ 4)) : Calls Tryd.prog 83 #[.agg #[.int .i64 k, .int .i64 st, .int .i64 ws, .int .i64 wn, .int .i64 ch, .int .i64 key, .int .i64 f, .int .i64 n]] w fun e w' => e = .returned (.bool false) ∧ w.alloc (.cells #[.int .i64 k, .int .i64 st, .int .i64 ws, .int .i64 wn, .int .i64 ch, .int .i64 key, .int .i64 f, .int .i64 n] 54) = w' := by
  have t2 : (st != ws) = true := by rw [bne_iff_ne]; exact g2
  clear g2
  have t3 : decide (0 ≤ min wn ch) = true := decide_eq_true g3
  have t4 : decide (max wn ch ≤ 1000000000) = true := decide_eq_true g4
  have t5 : decide (1 ≤ k) = true := decide_eq_true g5
  have t6 : decide (k ≤ 4) = false := decide_eq_false g6
  go_enter Tryd.func83, Tryd.ntmps83
  go_wp2_with (go_at_call 80; refine (node_all _ _).mono ?_; rintro e w' ⟨rfl, rfl⟩)
  all_goals first | (go_ret; exact ⟨by first | rfl | (simp; done), rfl⟩) | (exfalso; omega)
set_option maxHeartbeats 2000000 in
set_option maxRecDepth 100000 in
theorem formed_7 (k st ws wn ch key f n : Int) (w : World) (g0 : nodeB st = true) (g1 : nodeB ws = true) (g2 : st ≠ ws) (g3 : 0 ≤ min wn ch) (g4 : max wn ch ≤ 1000000000) (g5 : 1 ≤ k) (g6 : k ≤ 4) : Calls Tryd.prog 83 #[.agg #[.int .i64 k, .int .i64 st, .int .i64 ws, .int .i64 wn, .int .i64 ch, .int .i64 key, .int .i64 f, .int .i64 n]] w fun e w' => e = .returned (.bool true) ∧ w.alloc (.cells #[.int .i64 k, .int .i64 st, .int .i64 ws, .int .i64 wn, .int .i64 ch, .int .i64 key, .int .i64 f, .int .i64 n] 54) = w' := by
  have t2 : (st != ws) = true := by rw [bne_iff_ne]; exact g2
  clear g2
  have t3 : decide (0 ≤ min wn ch) = true := decide_eq_true g3
  have t4 : decide (max wn ch ≤ 1000000000) = true := decide_eq_true g4
  have t5 : decide (1 ≤ k) = true := decide_eq_true g5
  have t6 : decide (k ≤ 4) = true := decide_eq_true g6
  go_enter Tryd.func83, Tryd.ntmps83
  go_wp2_with (go_at_call 80; refine (node_all _ _).mono ?_; rintro e w' ⟨rfl, rfl⟩)
  all_goals first | (go_ret; exact ⟨by first | rfl | (simp; done), rfl⟩) | (exfalso; omega)
theorem formed_all (k st ws wn ch key f n : Int) (w : World) : Calls Tryd.prog 83 #[.agg #[.int .i64 k, .int .i64 st, .int .i64 ws, .int .i64 wn, .int .i64 ch, .int .i64 key, .int .i64 f, .int .i64 n]] w fun e w' => e = .returned (.bool (formedB k st ws wn ch)) ∧ w.alloc (.cells #[.int .i64 k, .int .i64 st, .int .i64 ws, .int .i64 wn, .int .i64 ch, .int .i64 key, .int .i64 f, .int .i64 n] 54) = w' := by
  by_cases g0 : nodeB st = true
  rotate_left
  · have e : formedB k st ws wn ch = false := by unfold formedB; exact decide_eq_false (fun h => g0 h.1)
    rw [e]; exact formed_0 k st ws wn ch key f n w (by simpa using g0)
  by_cases g1 : nodeB ws = true
  rotate_left
  · have e : formedB k st ws wn ch = false := by unfold formedB; exact decide_eq_false (fun h => g1 h.2.1)
    rw [e]; exact formed_1 k st ws wn ch key f n w g0 (by simpa using g1)
  by_cases g2 : st ≠ ws
  rotate_left
  · have e : formedB k st ws wn ch = false := by unfold formedB; exact decide_eq_false (fun h => g2 h.2.2.1)
    rw [e]; exact formed_2 k st ws wn ch key f n w g0 g1 g2
  by_cases g3 : 0 ≤ min wn ch
  rotate_left
  · have e : formedB k st ws wn ch = false := by unfold formedB; exact decide_eq_false (fun h => g3 (by have := h.2.2.2; omega))
    rw [e]; exact formed_3 k st ws wn ch key f n w g0 g1 g2 g3
  by_cases g4 : max wn ch ≤ 1000000000
  rotate_left
  · have e : formedB k st ws wn ch = false := by unfold formedB; exact decide_eq_false (fun h => g4 (by have := h.2.2.2; omega))
    rw [e]; exact formed_4 k st ws wn ch key f n w g0 g1 g2 g3 g4
  by_cases g5 : 1 ≤ k
  rotate_left
  · have e : formedB k st ws wn ch = false := by unfold formedB; exact decide_eq_false (fun h => g5 (by have := h.2.2.2; omega))
    rw [e]; exact formed_5 k st ws wn ch key f n w g0 g1 g2 g3 g4 g5
  by_cases g6 : k ≤ 4
  rotate_left
  · have e : formedB k st ws wn ch = false := by unfold formedB; exact decide_eq_false (fun h => g6 (by have := h.2.2.2; omega))
    rw [e]; exact formed_6 k st ws wn ch key f n w g0 g1 g2 g3 g4 g5 g6
  have e : formedB k st ws wn ch = true := by unfold formedB; exact decide_eq_true ⟨g0, g1, g2, by omega, by omega, by omega, by omega, by omega, by omega⟩
  rw [e]; exact formed_7 k st ws wn ch key f n w g0 g1 g2 g3 g4 g5 g6
theorem valid_si {ph sp no si tr : Int} (h : validB ph sp no si tr = true) : (0 ≤ ph ∧ ph ≤ 3) ∧ (-1 ≤ sp ∧ sp < 60) ∧ (0 ≤ no ∧ no ≤ 1000000000) ∧ (0 ≤ si ∧ si ≤ 1000000000) ∧ (0 ≤ tr ∧ tr ≤ 255) := by
  unfold validB at h; have := of_decide_eq_true h; omega
theorem formed_of {k st ws wn ch : Int} (h : formedB k st ws wn ch = true) : (0 ≤ st ∧ st < 60) ∧ (0 ≤ ws ∧ ws < 60) ∧ st ≠ ws ∧ (0 ≤ wn ∧ wn ≤ 1000000000) ∧ (0 ≤ ch ∧ ch ≤ 1000000000) ∧ 1 ≤ k ∧ k ≤ 4 := by
  unfold formedB at h
  have := of_decide_eq_true h
  unfold nodeB at this
  simp only [decide_eq_true_eq] at this
  omega
set_option maxHeartbeats 2000000 in
set_option maxRecDepth 100000 in
theorem judge_o (k st ws wn ch key f n x y : Int) (w : World) (hf : formedB k st ws wn ch = true) (g1 : 0 ≤ x) (g2 : x < y) (g3 : y ≤ 1000000000) (hk : k = 3) (hy : key = 1000000 + st) : Calls Tryd.prog 41 #[.agg #[.int .i64 k, .int .i64 st, .int .i64 ws, .int .i64 wn, .int .i64 ch, .int .i64 key, .int .i64 f, .int .i64 n], .agg #[.int .i64 x, .int .i64 y]] w fun e w' => e = .returned (.tuple #[.agg #[.int .i64 4, .int .i64 st, .int .i64 ws, .int .i64 wn, .int .i64 0, .int .i64 key, .int .i64 x, .int .i64 y], .int .i64 0]) ∧ Below w.heap.size w w' := by
  obtain ⟨⟨n0, n1⟩, _⟩ := formed_of hf
  have t0 : decide (x < 0) = false := decide_eq_false (by omega)
  have t1 : decide (y ≤ x) = false := decide_eq_false (by omega)
  have t2 : decide (1000000000 < y) = false := decide_eq_false (by omega)
  have t3 : (k != 3) = false := by rw [bne_eq_false_iff_eq]; exact hk
  have t4 : (key != 1000000 + st) = false := by rw [bne_eq_false_iff_eq]; exact hy
  clear hk hy
  go_enter Tryd.func41, Tryd.ntmps41
  go_wp2_with (first | (go_at_call 83; refine (formed_all _ _ _ _ _ _ _ _ _).mono ?_; rintro e w' ⟨rfl, rfl⟩) | (go_at_call 82; refine (own_yes _ n0 n1 _).mono ?_; rintro e w' ⟨rfl, rfl⟩))
  go_region
  go_wp2
  refine bodyPost_ret (v := .tuple #[.agg #[.int .i64 4, .int .i64 st, .int .i64 ws, .int .i64 wn, .int .i64 0, .int .i64 key, .int .i64 x, .int .i64 y], .int .i64 0]) (by simp [results, Tryd.results41, go_sem]) rfl ⟨rfl, ?_⟩
  repeat (first | (with_reducible exact Below.refl _ _) | (with_reducible refine bs_drewN ?_ _) | (with_reducible refine bs_drew ?_) | (with_reducible refine bs_alloc ?_ _) | (with_reducible refine bs_set ?_ _ (by first | (simp; done) | (simp; omega))) | (with_reducible refine bs_step ?_ (by assumption)))
/-- May a stranger ask? -/
def askP (ph sp no si tr me bt spo fr : Int) : Prop := validB ph sp no si tr = true ∧ nodeB me = true ∧ nodeB spo = true ∧ me ≠ spo ∧ 0 ≤ bt ∧ bt ≤ 1000000 ∧ 0 ≤ fr ∧ fr ≤ 1000000000
set_option maxHeartbeats 2000000 in
set_option maxRecDepth 100000 in
theorem ask_a0 (ph sp no si tr me bt spo fr : Int) (w : World)  (g0 : validB ph sp no si tr = false) : Calls Tryd.prog 39 #[.agg #[.int .i64 ph, .int .i64 sp, .int .i64 no, .int .i64 si, .int .i64 tr], .int .i64 me, .int .i64 bt, .int .i64 spo, .int .i64 fr] w fun e w' => e = .returned (.tuple #[.agg #[.int .i64 0, .int .i64 0, .int .i64 0, .int .i64 0, .int .i64 0], .agg #[.int .i64 0, .int .i64 0, .int .i64 0, .int .i64 0, .int .i64 0, .int .i64 0, .int .i64 0, .int .i64 0], .int .i64 1]) ∧ Below w.heap.size w w' := by
  go_enter Tryd.func39, Tryd.ntmps39
  go_wp2_with (first | (go_at_call 79; refine (valid_all _ ph sp no si tr _ ?a0 ?a1 ?a2 ?a3 ?a4).mono ?_; (case a0 => go_simp); (case a1 => go_simp); (case a2 => go_simp); (case a3 => go_simp); (case a4 => go_simp); rintro e w' ⟨rfl, rfl⟩) | (go_at_call 80; refine (node_all _ _).mono ?_; rintro e w' ⟨rfl, rfl⟩))
  refine bodyPost_ret (v := .tuple #[.agg #[.int .i64 0, .int .i64 0, .int .i64 0, .int .i64 0, .int .i64 0], .agg #[.int .i64 0, .int .i64 0, .int .i64 0, .int .i64 0, .int .i64 0, .int .i64 0, .int .i64 0, .int .i64 0], .int .i64 1]) (by simp [results, Tryd.results39, go_sem]) rfl ⟨rfl, ?_⟩
  repeat (first | (with_reducible exact Below.refl _ _) | (with_reducible refine bs_drewN ?_ _) | (with_reducible refine bs_drew ?_) | (with_reducible refine bs_alloc ?_ _) | (with_reducible refine bs_set ?_ _ (by first | (simp; done) | (simp; omega))) | (with_reducible refine bs_step ?_ (by assumption)))
set_option maxHeartbeats 2000000 in
set_option maxRecDepth 100000 in
theorem ask_a1 (ph sp no si tr me bt spo fr : Int) (w : World) (g0 : validB ph sp no si tr = true) (g1 : nodeB me = false) : Calls Tryd.prog 39 #[.agg #[.int .i64 ph, .int .i64 sp, .int .i64 no, .int .i64 si, .int .i64 tr], .int .i64 me, .int .i64 bt, .int .i64 spo, .int .i64 fr] w fun e w' => e = .returned (.tuple #[.agg #[.int .i64 0, .int .i64 0, .int .i64 0, .int .i64 0, .int .i64 0], .agg #[.int .i64 0, .int .i64 0, .int .i64 0, .int .i64 0, .int .i64 0, .int .i64 0, .int .i64 0, .int .i64 0], .int .i64 1]) ∧ Below w.heap.size w w' := by
  go_enter Tryd.func39, Tryd.ntmps39
  go_wp2_with (first | (go_at_call 79; refine (valid_all _ ph sp no si tr _ ?a0 ?a1 ?a2 ?a3 ?a4).mono ?_; (case a0 => go_simp); (case a1 => go_simp); (case a2 => go_simp); (case a3 => go_simp); (case a4 => go_simp); rintro e w' ⟨rfl, rfl⟩) | (go_at_call 80; refine (node_all _ _).mono ?_; rintro e w' ⟨rfl, rfl⟩))
  refine bodyPost_ret (v := .tuple #[.agg #[.int .i64 0, .int .i64 0, .int .i64 0, .int .i64 0, .int .i64 0], .agg #[.int .i64 0, .int .i64 0, .int .i64 0, .int .i64 0, .int .i64 0, .int .i64 0, .int .i64 0, .int .i64 0], .int .i64 1]) (by simp [results, Tryd.results39, go_sem]) rfl ⟨rfl, ?_⟩
  repeat (first | (with_reducible exact Below.refl _ _) | (with_reducible refine bs_drewN ?_ _) | (with_reducible refine bs_drew ?_) | (with_reducible refine bs_alloc ?_ _) | (with_reducible refine bs_set ?_ _ (by first | (simp; done) | (simp; omega))) | (with_reducible refine bs_step ?_ (by assumption)))
set_option maxHeartbeats 2000000 in
set_option maxRecDepth 100000 in
theorem ask_a2 (ph sp no si tr me bt spo fr : Int) (w : World) (g0 : validB ph sp no si tr = true) (g1 : nodeB me = true) (g2 : nodeB spo = false) : Calls Tryd.prog 39 #[.agg #[.int .i64 ph, .int .i64 sp, .int .i64 no, .int .i64 si, .int .i64 tr], .int .i64 me, .int .i64 bt, .int .i64 spo, .int .i64 fr] w fun e w' => e = .returned (.tuple #[.agg #[.int .i64 0, .int .i64 0, .int .i64 0, .int .i64 0, .int .i64 0], .agg #[.int .i64 0, .int .i64 0, .int .i64 0, .int .i64 0, .int .i64 0, .int .i64 0, .int .i64 0, .int .i64 0], .int .i64 1]) ∧ Below w.heap.size w w' := by
  go_enter Tryd.func39, Tryd.ntmps39
  go_wp2_with (first | (go_at_call 79; refine (valid_all _ ph sp no si tr _ ?a0 ?a1 ?a2 ?a3 ?a4).mono ?_; (case a0 => go_simp); (case a1 => go_simp); (case a2 => go_simp); (case a3 => go_simp); (case a4 => go_simp); rintro e w' ⟨rfl, rfl⟩) | (go_at_call 80; refine (node_all _ _).mono ?_; rintro e w' ⟨rfl, rfl⟩))
  refine bodyPost_ret (v := .tuple #[.agg #[.int .i64 0, .int .i64 0, .int .i64 0, .int .i64 0, .int .i64 0], .agg #[.int .i64 0, .int .i64 0, .int .i64 0, .int .i64 0, .int .i64 0, .int .i64 0, .int .i64 0, .int .i64 0], .int .i64 1]) (by simp [results, Tryd.results39, go_sem]) rfl ⟨rfl, ?_⟩
  repeat (first | (with_reducible exact Below.refl _ _) | (with_reducible refine bs_drewN ?_ _) | (with_reducible refine bs_drew ?_) | (with_reducible refine bs_alloc ?_ _) | (with_reducible refine bs_set ?_ _ (by first | (simp; done) | (simp; omega))) | (with_reducible refine bs_step ?_ (by assumption)))
set_option maxHeartbeats 2000000 in
set_option maxRecDepth 100000 in
theorem ask_a3 (ph sp no si tr me bt spo fr : Int) (w : World) (g0 : validB ph sp no si tr = true) (g1 : nodeB me = true) (g2 : nodeB spo = true) (g3 : me = spo) : Calls Tryd.prog 39 #[.agg #[.int .i64 ph, .int .i64 sp, .int .i64 no, .int .i64 si, .int .i64 tr], .int .i64 me, .int .i64 bt, .int .i64 spo, .int .i64 fr] w fun e w' => e = .returned (.tuple #[.agg #[.int .i64 0, .int .i64 0, .int .i64 0, .int .i64 0, .int .i64 0], .agg #[.int .i64 0, .int .i64 0, .int .i64 0, .int .i64 0, .int .i64 0, .int .i64 0, .int .i64 0, .int .i64 0], .int .i64 1]) ∧ Below w.heap.size w w' := by
  have t3 : (me == spo) = true := beq_iff_eq.2 g3
  clear g3
  go_enter Tryd.func39, Tryd.ntmps39
  go_wp2_with (first | (go_at_call 79; refine (valid_all _ ph sp no si tr _ ?a0 ?a1 ?a2 ?a3 ?a4).mono ?_; (case a0 => go_simp); (case a1 => go_simp); (case a2 => go_simp); (case a3 => go_simp); (case a4 => go_simp); rintro e w' ⟨rfl, rfl⟩) | (go_at_call 80; refine (node_all _ _).mono ?_; rintro e w' ⟨rfl, rfl⟩))
  refine bodyPost_ret (v := .tuple #[.agg #[.int .i64 0, .int .i64 0, .int .i64 0, .int .i64 0, .int .i64 0], .agg #[.int .i64 0, .int .i64 0, .int .i64 0, .int .i64 0, .int .i64 0, .int .i64 0, .int .i64 0, .int .i64 0], .int .i64 1]) (by simp [results, Tryd.results39, go_sem]) rfl ⟨rfl, ?_⟩
  repeat (first | (with_reducible exact Below.refl _ _) | (with_reducible refine bs_drewN ?_ _) | (with_reducible refine bs_drew ?_) | (with_reducible refine bs_alloc ?_ _) | (with_reducible refine bs_set ?_ _ (by first | (simp; done) | (simp; omega))) | (with_reducible refine bs_step ?_ (by assumption)))
set_option maxHeartbeats 2000000 in
set_option maxRecDepth 100000 in
theorem ask_a4 (ph sp no si tr me bt spo fr : Int) (w : World) (g0 : validB ph sp no si tr = true) (g1 : nodeB me = true) (g2 : nodeB spo = true) (g3 : me ≠ spo) (g4 : bt < 0) : Calls Tryd.prog 39 #[.agg #[.int .i64 ph, .int .i64 sp, .int .i64 no, .int .i64 si, .int .i64 tr], .int .i64 me, .int .i64 bt, .int .i64 spo, .int .i64 fr] w fun e w' => e = .returned (.tuple #[.agg #[.int .i64 0, .int .i64 0, .int .i64 0, .int .i64 0, .int .i64 0], .agg #[.int .i64 0, .int .i64 0, .int .i64 0, .int .i64 0, .int .i64 0, .int .i64 0, .int .i64 0, .int .i64 0], .int .i64 1]) ∧ Below w.heap.size w w' := by
  have t3 : (me == spo) = false := beq_eq_false_iff_ne.2 g3
  have t4 : decide (bt < 0) = true := decide_eq_true g4
  clear g3
  go_enter Tryd.func39, Tryd.ntmps39
  go_wp2_with (first | (go_at_call 79; refine (valid_all _ ph sp no si tr _ ?a0 ?a1 ?a2 ?a3 ?a4).mono ?_; (case a0 => go_simp); (case a1 => go_simp); (case a2 => go_simp); (case a3 => go_simp); (case a4 => go_simp); rintro e w' ⟨rfl, rfl⟩) | (go_at_call 80; refine (node_all _ _).mono ?_; rintro e w' ⟨rfl, rfl⟩))
  refine bodyPost_ret (v := .tuple #[.agg #[.int .i64 0, .int .i64 0, .int .i64 0, .int .i64 0, .int .i64 0], .agg #[.int .i64 0, .int .i64 0, .int .i64 0, .int .i64 0, .int .i64 0, .int .i64 0, .int .i64 0, .int .i64 0], .int .i64 1]) (by simp [results, Tryd.results39, go_sem]) rfl ⟨rfl, ?_⟩
  repeat (first | (with_reducible exact Below.refl _ _) | (with_reducible refine bs_drewN ?_ _) | (with_reducible refine bs_drew ?_) | (with_reducible refine bs_alloc ?_ _) | (with_reducible refine bs_set ?_ _ (by first | (simp; done) | (simp; omega))) | (with_reducible refine bs_step ?_ (by assumption)))
set_option maxHeartbeats 2000000 in
set_option maxRecDepth 100000 in
theorem ask_a5 (ph sp no si tr me bt spo fr : Int) (w : World) (g0 : validB ph sp no si tr = true) (g1 : nodeB me = true) (g2 : nodeB spo = true) (g3 : me ≠ spo) (g4 : 0 ≤ bt) (g5 : 1000000 < bt) : Calls Tryd.prog 39 #[.agg #[.int .i64 ph, .int .i64 sp, .int .i64 no, .int .i64 si, .int .i64 tr], .int .i64 me, .int .i64 bt, .int .i64 spo, .int .i64 fr] w fun e w' => e = .returned (.tuple #[.agg #[.int .i64 0, .int .i64 0, .int .i64 0, .int .i64 0, .int .i64 0], .agg #[.int .i64 0, .int .i64 0, .int .i64 0, .int .i64 0, .int .i64 0, .int .i64 0, .int .i64 0, .int .i64 0], .int .i64 1]) ∧ Below w.heap.size w w' := by
  have t3 : (me == spo) = false := beq_eq_false_iff_ne.2 g3
  have t4 : decide (bt < 0) = false := decide_eq_false (by omega)
  have t5 : decide (1000000 < bt) = true := decide_eq_true g5
  clear g3
  go_enter Tryd.func39, Tryd.ntmps39
  go_wp2_with (first | (go_at_call 79; refine (valid_all _ ph sp no si tr _ ?a0 ?a1 ?a2 ?a3 ?a4).mono ?_; (case a0 => go_simp); (case a1 => go_simp); (case a2 => go_simp); (case a3 => go_simp); (case a4 => go_simp); rintro e w' ⟨rfl, rfl⟩) | (go_at_call 80; refine (node_all _ _).mono ?_; rintro e w' ⟨rfl, rfl⟩))
  refine bodyPost_ret (v := .tuple #[.agg #[.int .i64 0, .int .i64 0, .int .i64 0, .int .i64 0, .int .i64 0], .agg #[.int .i64 0, .int .i64 0, .int .i64 0, .int .i64 0, .int .i64 0, .int .i64 0, .int .i64 0, .int .i64 0], .int .i64 1]) (by simp [results, Tryd.results39, go_sem]) rfl ⟨rfl, ?_⟩
  repeat (first | (with_reducible exact Below.refl _ _) | (with_reducible refine bs_drewN ?_ _) | (with_reducible refine bs_drew ?_) | (with_reducible refine bs_alloc ?_ _) | (with_reducible refine bs_set ?_ _ (by first | (simp; done) | (simp; omega))) | (with_reducible refine bs_step ?_ (by assumption)))
set_option maxHeartbeats 2000000 in
set_option maxRecDepth 100000 in
theorem ask_a6 (ph sp no si tr me bt spo fr : Int) (w : World) (g0 : validB ph sp no si tr = true) (g1 : nodeB me = true) (g2 : nodeB spo = true) (g3 : me ≠ spo) (g4 : 0 ≤ bt) (g5 : bt ≤ 1000000) (g6 : fr < 0) : Calls Tryd.prog 39 #[.agg #[.int .i64 ph, .int .i64 sp, .int .i64 no, .int .i64 si, .int .i64 tr], .int .i64 me, .int .i64 bt, .int .i64 spo, .int .i64 fr] w fun e w' => e = .returned (.tuple #[.agg #[.int .i64 0, .int .i64 0, .int .i64 0, .int .i64 0, .int .i64 0], .agg #[.int .i64 0, .int .i64 0, .int .i64 0, .int .i64 0, .int .i64 0, .int .i64 0, .int .i64 0, .int .i64 0], .int .i64 1]) ∧ Below w.heap.size w w' := by
  have t3 : (me == spo) = false := beq_eq_false_iff_ne.2 g3
  have t4 : decide (bt < 0) = false := decide_eq_false (by omega)
  have t5 : decide (1000000 < bt) = false := decide_eq_false (by omega)
  have t6 : decide (fr < 0) = true := decide_eq_true g6
  clear g3
  go_enter Tryd.func39, Tryd.ntmps39
  go_wp2_with (first | (go_at_call 79; refine (valid_all _ ph sp no si tr _ ?a0 ?a1 ?a2 ?a3 ?a4).mono ?_; (case a0 => go_simp); (case a1 => go_simp); (case a2 => go_simp); (case a3 => go_simp); (case a4 => go_simp); rintro e w' ⟨rfl, rfl⟩) | (go_at_call 80; refine (node_all _ _).mono ?_; rintro e w' ⟨rfl, rfl⟩))
  refine bodyPost_ret (v := .tuple #[.agg #[.int .i64 0, .int .i64 0, .int .i64 0, .int .i64 0, .int .i64 0], .agg #[.int .i64 0, .int .i64 0, .int .i64 0, .int .i64 0, .int .i64 0, .int .i64 0, .int .i64 0, .int .i64 0], .int .i64 1]) (by simp [results, Tryd.results39, go_sem]) rfl ⟨rfl, ?_⟩
  repeat (first | (with_reducible exact Below.refl _ _) | (with_reducible refine bs_drewN ?_ _) | (with_reducible refine bs_drew ?_) | (with_reducible refine bs_alloc ?_ _) | (with_reducible refine bs_set ?_ _ (by first | (simp; done) | (simp; omega))) | (with_reducible refine bs_step ?_ (by assumption)))
set_option maxHeartbeats 2000000 in
set_option maxRecDepth 100000 in
theorem ask_a7 (ph sp no si tr me bt spo fr : Int) (w : World) (g0 : validB ph sp no si tr = true) (g1 : nodeB me = true) (g2 : nodeB spo = true) (g3 : me ≠ spo) (g4 : 0 ≤ bt) (g5 : bt ≤ 1000000) (g6 : 0 ≤ fr) (g7 : 1000000000 < fr) : Calls Tryd.prog 39 #[.agg #[.int .i64 ph, .int .i64 sp, .int .i64 no, .int .i64 si, .int .i64 tr], .int .i64 me, .int .i64 bt, .int .i64 spo, .int .i64 fr] w fun e w' => e = .returned (.tuple #[.agg #[.int .i64 0, .int .i64 0, .int .i64 0, .int .i64 0, .int .i64 0], .agg #[.int .i64 0, .int .i64 0, .int .i64 0, .int .i64 0, .int .i64 0, .int .i64 0, .int .i64 0, .int .i64 0], .int .i64 1]) ∧ Below w.heap.size w w' := by
  have t3 : (me == spo) = false := beq_eq_false_iff_ne.2 g3
  have t4 : decide (bt < 0) = false := decide_eq_false (by omega)
  have t5 : decide (1000000 < bt) = false := decide_eq_false (by omega)
  have t6 : decide (fr < 0) = false := decide_eq_false (by omega)
  have t7 : decide (1000000000 < fr) = true := decide_eq_true g7
  clear g3
  go_enter Tryd.func39, Tryd.ntmps39
  go_wp2_with (first | (go_at_call 79; refine (valid_all _ ph sp no si tr _ ?a0 ?a1 ?a2 ?a3 ?a4).mono ?_; (case a0 => go_simp); (case a1 => go_simp); (case a2 => go_simp); (case a3 => go_simp); (case a4 => go_simp); rintro e w' ⟨rfl, rfl⟩) | (go_at_call 80; refine (node_all _ _).mono ?_; rintro e w' ⟨rfl, rfl⟩))
  refine bodyPost_ret (v := .tuple #[.agg #[.int .i64 0, .int .i64 0, .int .i64 0, .int .i64 0, .int .i64 0], .agg #[.int .i64 0, .int .i64 0, .int .i64 0, .int .i64 0, .int .i64 0, .int .i64 0, .int .i64 0, .int .i64 0], .int .i64 1]) (by simp [results, Tryd.results39, go_sem]) rfl ⟨rfl, ?_⟩
  repeat (first | (with_reducible exact Below.refl _ _) | (with_reducible refine bs_drewN ?_ _) | (with_reducible refine bs_drew ?_) | (with_reducible refine bs_alloc ?_ _) | (with_reducible refine bs_set ?_ _ (by first | (simp; done) | (simp; omega))) | (with_reducible refine bs_step ?_ (by assumption)))
set_option maxHeartbeats 2000000 in
set_option maxRecDepth 100000 in
theorem ask_s (ph sp no si tr me bt spo fr : Int) (w : World) (h : askP ph sp no si tr me bt spo fr) (hp : ph ≠ 0) : Calls Tryd.prog 39 #[.agg #[.int .i64 ph, .int .i64 sp, .int .i64 no, .int .i64 si, .int .i64 tr], .int .i64 me, .int .i64 bt, .int .i64 spo, .int .i64 fr] w fun e w' => e = .returned (.tuple #[.agg #[.int .i64 0, .int .i64 0, .int .i64 0, .int .i64 0, .int .i64 0], .agg #[.int .i64 0, .int .i64 0, .int .i64 0, .int .i64 0, .int .i64 0, .int .i64 0, .int .i64 0, .int .i64 0], .int .i64 6]) ∧ Below w.heap.size w w' := by
  obtain ⟨g0, g1, g2, g3, g4, g5, g6, g7⟩ := h
  obtain ⟨_, _, _, _, ⟨r0, r1⟩⟩ := valid_si g0
  have t3 : (me == spo) = false := beq_eq_false_iff_ne.2 g3
  have t4 : decide (bt < 0) = false := decide_eq_false (by omega)
  have t5 : decide (1000000 < bt) = false := decide_eq_false (by omega)
  have t6 : decide (fr < 0) = false := decide_eq_false (by omega)
  have t7 : decide (1000000000 < fr) = false := decide_eq_false (by omega)
  have u0 : (ph != 0) = true := by rw [bne_iff_ne]; exact hp
  clear g3 hp
  go_enter Tryd.func39, Tryd.ntmps39
  go_wp2_with (first | (go_at_call 79; refine (valid_all _ ph sp no si tr _ ?a0 ?a1 ?a2 ?a3 ?a4).mono ?_; (case a0 => go_simp); (case a1 => go_simp); (case a2 => go_simp); (case a3 => go_simp); (case a4 => go_simp); rintro e w' ⟨rfl, rfl⟩) | (go_at_call 80; refine (node_all _ _).mono ?_; rintro e w' ⟨rfl, rfl⟩))
  refine bodyPost_ret (v := .tuple #[.agg #[.int .i64 0, .int .i64 0, .int .i64 0, .int .i64 0, .int .i64 0], .agg #[.int .i64 0, .int .i64 0, .int .i64 0, .int .i64 0, .int .i64 0, .int .i64 0, .int .i64 0, .int .i64 0], .int .i64 6]) (by simp [results, Tryd.results39, go_sem]) rfl ⟨rfl, ?_⟩
  repeat (first | (with_reducible exact Below.refl _ _) | (with_reducible refine bs_drewN ?_ _) | (with_reducible refine bs_drew ?_) | (with_reducible refine bs_alloc ?_ _) | (with_reducible refine bs_set ?_ _ (by first | (simp; done) | (simp; omega))) | (with_reducible refine bs_step ?_ (by assumption)))
set_option maxHeartbeats 2000000 in
set_option maxRecDepth 100000 in
theorem ask_l (ph sp no si tr me bt spo fr : Int) (w : World) (h : askP ph sp no si tr me bt spo fr) (hp : ph = 0) (ht : tr = 255) : Calls Tryd.prog 39 #[.agg #[.int .i64 ph, .int .i64 sp, .int .i64 no, .int .i64 si, .int .i64 tr], .int .i64 me, .int .i64 bt, .int .i64 spo, .int .i64 fr] w fun e w' => e = .returned (.tuple #[.agg #[.int .i64 0, .int .i64 0, .int .i64 0, .int .i64 0, .int .i64 0], .agg #[.int .i64 0, .int .i64 0, .int .i64 0, .int .i64 0, .int .i64 0, .int .i64 0, .int .i64 0, .int .i64 0], .int .i64 2]) ∧ Below w.heap.size w w' := by
  obtain ⟨g0, g1, g2, g3, g4, g5, g6, g7⟩ := h
  obtain ⟨_, _, _, _, ⟨r0, r1⟩⟩ := valid_si g0
  have t3 : (me == spo) = false := beq_eq_false_iff_ne.2 g3
  have t4 : decide (bt < 0) = false := decide_eq_false (by omega)
  have t5 : decide (1000000 < bt) = false := decide_eq_false (by omega)
  have t6 : decide (fr < 0) = false := decide_eq_false (by omega)
  have t7 : decide (1000000000 < fr) = false := decide_eq_false (by omega)
  have u0 : (ph != 0) = false := by rw [bne_eq_false_iff_eq]; exact hp
  have u1 : (tr == 255) = true := beq_iff_eq.2 ht
  clear g3 hp ht
  go_enter Tryd.func39, Tryd.ntmps39
  go_wp2_with (first | (go_at_call 79; refine (valid_all _ ph sp no si tr _ ?a0 ?a1 ?a2 ?a3 ?a4).mono ?_; (case a0 => go_simp); (case a1 => go_simp); (case a2 => go_simp); (case a3 => go_simp); (case a4 => go_simp); rintro e w' ⟨rfl, rfl⟩) | (go_at_call 80; refine (node_all _ _).mono ?_; rintro e w' ⟨rfl, rfl⟩))
  refine bodyPost_ret (v := .tuple #[.agg #[.int .i64 0, .int .i64 0, .int .i64 0, .int .i64 0, .int .i64 0], .agg #[.int .i64 0, .int .i64 0, .int .i64 0, .int .i64 0, .int .i64 0, .int .i64 0, .int .i64 0, .int .i64 0], .int .i64 2]) (by simp [results, Tryd.results39, go_sem]) rfl ⟨rfl, ?_⟩
  repeat (first | (with_reducible exact Below.refl _ _) | (with_reducible refine bs_drewN ?_ _) | (with_reducible refine bs_drew ?_) | (with_reducible refine bs_alloc ?_ _) | (with_reducible refine bs_set ?_ _ (by first | (simp; done) | (simp; omega))) | (with_reducible refine bs_step ?_ (by assumption)))
set_option maxHeartbeats 2000000 in
set_option maxRecDepth 100000 in
theorem ask_o (ph sp no si tr me bt spo fr : Int) (w : World) (h : askP ph sp no si tr me bt spo fr) (hp : ph = 0) (ht : tr ≠ 255) : Calls Tryd.prog 39 #[.agg #[.int .i64 ph, .int .i64 sp, .int .i64 no, .int .i64 si, .int .i64 tr], .int .i64 me, .int .i64 bt, .int .i64 spo, .int .i64 fr] w fun e w' => e = .returned (.tuple #[.agg #[.int .i64 1, .int .i64 spo, .int .i64 (256 * bt + tr + 1), .int .i64 fr, .int .i64 (tr + 1)], .agg #[.int .i64 1, .int .i64 me, .int .i64 spo, .int .i64 (256 * bt + tr + 1), .int .i64 0, .int .i64 0, .int .i64 0, .int .i64 0], .int .i64 0]) ∧ Below w.heap.size w w' := by
  obtain ⟨g0, g1, g2, g3, g4, g5, g6, g7⟩ := h
  obtain ⟨_, _, _, _, ⟨r0, r1⟩⟩ := valid_si g0
  have t3 : (me == spo) = false := beq_eq_false_iff_ne.2 g3
  have t4 : decide (bt < 0) = false := decide_eq_false (by omega)
  have t5 : decide (1000000 < bt) = false := decide_eq_false (by omega)
  have t6 : decide (fr < 0) = false := decide_eq_false (by omega)
  have t7 : decide (1000000000 < fr) = false := decide_eq_false (by omega)
  have u0 : (ph != 0) = false := by rw [bne_eq_false_iff_eq]; exact hp
  have u1 : (tr == 255) = false := beq_eq_false_iff_ne.2 ht
  clear g3 hp ht
  go_enter Tryd.func39, Tryd.ntmps39
  go_wp2_with (first | (go_at_call 79; refine (valid_all _ ph sp no si tr _ ?a0 ?a1 ?a2 ?a3 ?a4).mono ?_; (case a0 => go_simp); (case a1 => go_simp); (case a2 => go_simp); (case a3 => go_simp); (case a4 => go_simp); rintro e w' ⟨rfl, rfl⟩) | (go_at_call 80; refine (node_all _ _).mono ?_; rintro e w' ⟨rfl, rfl⟩))
  go_region
  go_wp2
  have ea : 256 * bt + (tr + 1) = 256 * bt + tr + 1 := by omega
  refine bodyPost_ret (v := .tuple #[.agg #[.int .i64 1, .int .i64 spo, .int .i64 (256 * bt + (tr + 1)), .int .i64 fr, .int .i64 (tr + 1)], .agg #[.int .i64 1, .int .i64 me, .int .i64 spo, .int .i64 (256 * bt + (tr + 1)), .int .i64 0, .int .i64 0, .int .i64 0, .int .i64 0], .int .i64 0]) (by simp [results, Tryd.results39, go_sem]) rfl ⟨by rw [ea], ?_⟩
  repeat (first | (with_reducible exact Below.refl _ _) | (with_reducible refine bs_drewN ?_ _) | (with_reducible refine bs_drew ?_) | (with_reducible refine bs_alloc ?_ _) | (with_reducible refine bs_set ?_ _ (by first | (simp; done) | (simp; omega))) | (with_reducible refine bs_step ?_ (by assumption)))
theorem ask_arg (ph sp no si tr me bt spo fr : Int) (w : World) (h : ¬ askP ph sp no si tr me bt spo fr) : Calls Tryd.prog 39 #[.agg #[.int .i64 ph, .int .i64 sp, .int .i64 no, .int .i64 si, .int .i64 tr], .int .i64 me, .int .i64 bt, .int .i64 spo, .int .i64 fr] w fun e w' => e = .returned (.tuple #[.agg #[.int .i64 0, .int .i64 0, .int .i64 0, .int .i64 0, .int .i64 0], .agg #[.int .i64 0, .int .i64 0, .int .i64 0, .int .i64 0, .int .i64 0, .int .i64 0, .int .i64 0, .int .i64 0], .int .i64 1]) ∧ Below w.heap.size w w' := by
  unfold askP at h
  by_cases g0 : validB ph sp no si tr = true
  rotate_left
  · exact ask_a0 _ _ _ _ _ _ _ _ _ w  (by simpa using g0)
  by_cases g1 : nodeB me = true
  rotate_left
  · exact ask_a1 _ _ _ _ _ _ _ _ _ w g0 (by simpa using g1)
  by_cases g2 : nodeB spo = true
  rotate_left
  · exact ask_a2 _ _ _ _ _ _ _ _ _ w g0 g1 (by simpa using g2)
  by_cases g3 : me ≠ spo
  rotate_left
  · exact ask_a3 _ _ _ _ _ _ _ _ _ w g0 g1 g2 (by omega)
  by_cases g4 : 0 ≤ bt
  rotate_left
  · exact ask_a4 _ _ _ _ _ _ _ _ _ w g0 g1 g2 g3 (by omega)
  by_cases g5 : bt ≤ 1000000
  rotate_left
  · exact ask_a5 _ _ _ _ _ _ _ _ _ w g0 g1 g2 g3 g4 (by omega)
  by_cases g6 : 0 ≤ fr
  rotate_left
  · exact ask_a6 _ _ _ _ _ _ _ _ _ w g0 g1 g2 g3 g4 g5 (by omega)
  by_cases g7 : fr ≤ 1000000000
  rotate_left
  · exact ask_a7 _ _ _ _ _ _ _ _ _ w g0 g1 g2 g3 g4 g5 g6 (by omega)
  exact absurd ⟨g0, g1, g2, g3, g4, g5, g6, g7⟩ h
set_option maxHeartbeats 2000000 in
set_option maxRecDepth 100000 in
theorem m_c1 (B : Nat) (st ws wn ch key f n own : Int) (w : World) (c0 : w.cell? ⟨B, 0, none⟩ = some (.int .i64 1)) (fz : w.frozen? ⟨B, 0, none⟩ = false)  : Calls Tryd.prog 81 #[.pointer (some ⟨B, 0, none⟩), .agg #[.int .i64 2, .int .i64 st, .int .i64 ws, .int .i64 wn, .int .i64 ch, .int .i64 key, .int .i64 f, .int .i64 n], .int .i64 own] w fun e w' => e = .returned (.tuple #[.agg #[.int .i64 3, .int .i64 st, .int .i64 ws, .int .i64 wn, .int .i64 ch, .int .i64 own, .int .i64 0, .int .i64 0], .bool true]) ∧ ∃ o1 o2 o3 : Obj, ((((w.setCell ⟨B, 0, none⟩ (.int .i64 2)).alloc o1).alloc o2).alloc o3) = w' := by
  have hz0 : B < w.heap.size := by have := World.block_lt_of_cell? _ _ c0; simp only at this; omega
  have hz1 : B < w.heap.size + 1 := by have := World.block_lt_of_cell? _ _ c0; simp only at this; omega
  have hz2 : B < w.heap.size + 1 + 1 := by have := World.block_lt_of_cell? _ _ c0; simp only at this; omega
  have hz3 : B < w.heap.size + 1 + 1 + 1 := by have := World.block_lt_of_cell? _ _ c0; simp only at this; omega
  have hn0 : ¬ B = w.heap.size := by omega
  have hm0 : ¬ w.heap.size = B := by omega
  have hn1 : ¬ B = w.heap.size + 1 := by omega
  have hm1 : ¬ w.heap.size + 1 = B := by omega
  have hn2 : ¬ B = w.heap.size + 1 + 1 := by omega
  have hm2 : ¬ w.heap.size + 1 + 1 = B := by omega
  go_enter Tryd.func81, Tryd.ntmps81
  go_wp2
  refine bodyPost_ret (v := .tuple #[.agg #[.int .i64 3, .int .i64 st, .int .i64 ws, .int .i64 wn, .int .i64 ch, .int .i64 own, .int .i64 0, .int .i64 0], .bool true]) (by simp [results, Tryd.results81, go_sem]) rfl ⟨rfl, ?_⟩
  exact ⟨_, _, _, rfl⟩
set_option maxHeartbeats 2000000 in
set_option maxRecDepth 100000 in
theorem m_wy (B : Nat) (st ws wn ch f n own : Int) (w : World) (c0 : w.cell? ⟨B, 0, none⟩ = some (.int .i64 2)) (fz : w.frozen? ⟨B, 0, none⟩ = false)  : Calls Tryd.prog 81 #[.pointer (some ⟨B, 0, none⟩), .agg #[.int .i64 4, .int .i64 st, .int .i64 ws, .int .i64 wn, .int .i64 ch, .int .i64 own, .int .i64 f, .int .i64 n], .int .i64 own] w fun e w' => e = .returned (.tuple #[.agg #[.int .i64 0, .int .i64 0, .int .i64 0, .int .i64 0, .int .i64 0, .int .i64 0, .int .i64 0, .int .i64 0], .bool true]) ∧ ∃ o1 o2 o3 : Obj, ((((w.setCell ⟨B, 0, none⟩ (.int .i64 3)).alloc o1).alloc o2).alloc o3) = w' := by
  have hz0 : B < w.heap.size := by have := World.block_lt_of_cell? _ _ c0; simp only at this; omega
  have hz1 : B < w.heap.size + 1 := by have := World.block_lt_of_cell? _ _ c0; simp only at this; omega
  have hz2 : B < w.heap.size + 1 + 1 := by have := World.block_lt_of_cell? _ _ c0; simp only at this; omega
  have hz3 : B < w.heap.size + 1 + 1 + 1 := by have := World.block_lt_of_cell? _ _ c0; simp only at this; omega
  have hn0 : ¬ B = w.heap.size := by omega
  have hm0 : ¬ w.heap.size = B := by omega
  have hn1 : ¬ B = w.heap.size + 1 := by omega
  have hm1 : ¬ w.heap.size + 1 = B := by omega
  have hn2 : ¬ B = w.heap.size + 1 + 1 := by omega
  have hm2 : ¬ w.heap.size + 1 + 1 = B := by omega
  go_enter Tryd.func81, Tryd.ntmps81
  go_wp2
  refine bodyPost_ret (v := .tuple #[.agg #[.int .i64 0, .int .i64 0, .int .i64 0, .int .i64 0, .int .i64 0, .int .i64 0, .int .i64 0, .int .i64 0], .bool true]) (by simp [results, Tryd.results81, go_sem]) rfl ⟨rfl, ?_⟩
  exact ⟨_, _, _, rfl⟩
set_option maxHeartbeats 2000000 in
set_option maxRecDepth 100000 in
theorem hear_c1 (sp no si tr ch key f n fr me : Int) (w : World) (hv : validB 1 sp no si tr = true) (hf : formedB 2 me sp no ch = true) (f0 : 0 ≤ fr) (f1 : fr ≤ 1000000000)  : Calls Tryd.prog 40 #[.agg #[.int .i64 1, .int .i64 sp, .int .i64 no, .int .i64 si, .int .i64 tr], .int .i64 me, .agg #[.int .i64 2, .int .i64 me, .int .i64 sp, .int .i64 no, .int .i64 ch, .int .i64 key, .int .i64 f, .int .i64 n], .int .i64 fr] w fun e w' => e = .returned (.tuple #[.agg #[.int .i64 2, .int .i64 sp, .int .i64 no, .int .i64 si, .int .i64 tr], .agg #[.int .i64 3, .int .i64 me, .int .i64 sp, .int .i64 no, .int .i64 ch, .int .i64 (1000000 + me), .int .i64 0, .int .i64 0], .bool true]) ∧ Below w.heap.size w w' := by
  obtain ⟨⟨n0, n1⟩, _⟩ := formed_of hf
  have t0 : decide (fr < 0) = false := decide_eq_false (by omega)
  have t1 : decide (1000000000 < fr) = false := decide_eq_false (by omega)
  go_enter Tryd.func40, Tryd.ntmps40
  go_wp2_with (first | (go_at_call 79; refine (valid_all _ 1 sp no si tr _ ?a0 ?a1 ?a2 ?a3 ?a4).mono ?_; (case a0 => go_simp); (case a1 => go_simp); (case a2 => go_simp); (case a3 => go_simp); (case a4 => go_simp); rintro e w' ⟨rfl, rfl⟩) | (go_at_call 83; refine (formed_all _ _ _ _ _ _ _ _ _).mono ?_; rintro e w' ⟨rfl, rfl⟩) | (go_at_call 82; refine (own_yes _ n0 n1 _).mono ?_; rintro e w' ⟨rfl, rfl⟩) | (go_at_call 81; refine (m_c1 _ _ _ _ _ _ _ _ _ _ ?c0 ?c1).mono ?_; (case c0 => go_simp); (case c1 => go_simp); rintro e w' ⟨rfl, o1, o2, o3, rfl⟩))
  go_region
  go_wp2
  refine bodyPost_ret (v := .tuple #[.agg #[.int .i64 2, .int .i64 sp, .int .i64 no, .int .i64 si, .int .i64 tr], .agg #[.int .i64 3, .int .i64 me, .int .i64 sp, .int .i64 no, .int .i64 ch, .int .i64 (1000000 + me), .int .i64 0, .int .i64 0], .bool true]) (by simp [results, Tryd.results40, go_sem]) rfl ⟨rfl, ?_⟩
  repeat (first | (with_reducible exact Below.refl _ _) | (with_reducible refine bs_drewN ?_ _) | (with_reducible refine bs_drew ?_) | (with_reducible refine bs_alloc ?_ _) | (with_reducible refine bs_set ?_ _ (by first | (simp; done) | (simp; omega))) | (with_reducible refine bs_step ?_ (by assumption)))
set_option maxHeartbeats 2000000 in
set_option maxRecDepth 100000 in
theorem hear_wy (sp no si tr ch f n fr me : Int) (w : World) (hv : validB 2 sp no si tr = true) (hf : formedB 4 me sp no ch = true) (f0 : 0 ≤ fr) (f1 : fr ≤ 1000000000)  : Calls Tryd.prog 40 #[.agg #[.int .i64 2, .int .i64 sp, .int .i64 no, .int .i64 si, .int .i64 tr], .int .i64 me, .agg #[.int .i64 4, .int .i64 me, .int .i64 sp, .int .i64 no, .int .i64 ch, .int .i64 (1000000 + me), .int .i64 f, .int .i64 n], .int .i64 fr] w fun e w' => e = .returned (.tuple #[.agg #[.int .i64 3, .int .i64 sp, .int .i64 no, .int .i64 si, .int .i64 tr], .agg #[.int .i64 0, .int .i64 0, .int .i64 0, .int .i64 0, .int .i64 0, .int .i64 0, .int .i64 0, .int .i64 0], .bool true]) ∧ Below w.heap.size w w' := by
  obtain ⟨⟨n0, n1⟩, _⟩ := formed_of hf
  have t0 : decide (fr < 0) = false := decide_eq_false (by omega)
  have t1 : decide (1000000000 < fr) = false := decide_eq_false (by omega)
  go_enter Tryd.func40, Tryd.ntmps40
  go_wp2_with (first | (go_at_call 79; refine (valid_all _ 2 sp no si tr _ ?a0 ?a1 ?a2 ?a3 ?a4).mono ?_; (case a0 => go_simp); (case a1 => go_simp); (case a2 => go_simp); (case a3 => go_simp); (case a4 => go_simp); rintro e w' ⟨rfl, rfl⟩) | (go_at_call 83; refine (formed_all _ _ _ _ _ _ _ _ _).mono ?_; rintro e w' ⟨rfl, rfl⟩) | (go_at_call 82; refine (own_yes _ n0 n1 _).mono ?_; rintro e w' ⟨rfl, rfl⟩) | (go_at_call 81; refine (m_wy _ _ _ _ _ _ _ _ _ ?c0 ?c1).mono ?_; (case c0 => go_simp); (case c1 => go_simp); rintro e w' ⟨rfl, o1, o2, o3, rfl⟩))
  go_region
  go_wp2
  refine bodyPost_ret (v := .tuple #[.agg #[.int .i64 3, .int .i64 sp, .int .i64 no, .int .i64 si, .int .i64 tr], .agg #[.int .i64 0, .int .i64 0, .int .i64 0, .int .i64 0, .int .i64 0, .int .i64 0, .int .i64 0, .int .i64 0], .bool true]) (by simp [results, Tryd.results40, go_sem]) rfl ⟨rfl, ?_⟩
  repeat (first | (with_reducible exact Below.refl _ _) | (with_reducible refine bs_drewN ?_ _) | (with_reducible refine bs_drew ?_) | (with_reducible refine bs_alloc ?_ _) | (with_reducible refine bs_set ?_ _ (by first | (simp; done) | (simp; omega))) | (with_reducible refine bs_step ?_ (by assumption)))
end Go.Proofs.YtncgeclkgmfppaaDoor
