/-
  How a state changes by a word that is meant for it.
-/
import Derived.Test.YteiiglefbbhinaaJoinE
namespace Go.Proofs.Yteiiglefbbhinaa
open Go.RowKit
set_option linter.unusedVariables false
set_option linter.unusedSimpArgs false
set_option maxHeartbeats 2000000 in
set_option maxRecDepth 100000 in
theorem m_c1 (B : Nat) (st ws wn ch key f n own : Int) (w : World) (c0 : w.cell? ⟨B, 0, none⟩ = some (.int .i64 1)) (fz : w.frozen? ⟨B, 0, none⟩ = false)  : Calls Try.prog 25 #[.pointer (some ⟨B, 0, none⟩), .agg #[.int .i64 2, .int .i64 st, .int .i64 ws, .int .i64 wn, .int .i64 ch, .int .i64 key, .int .i64 f, .int .i64 n], .int .i64 own] w fun e w' => e = .returned (.tuple #[.agg #[.int .i64 3, .int .i64 st, .int .i64 ws, .int .i64 wn, .int .i64 ch, .int .i64 own, .int .i64 0, .int .i64 0], .bool true]) ∧ ∃ o1 o2 o3 : Obj, ((((w.setCell ⟨B, 0, none⟩ (.int .i64 2)).alloc o1).alloc o2).alloc o3) = w' := by
  have hz0 : B < w.heap.size := by have := World.block_lt_of_cell? _ _ c0; simp only at this; omega
  have hz1 : B < w.heap.size + 1 := by have := World.block_lt_of_cell? _ _ c0; simp only at this; omega
  have hz2 : B < w.heap.size + 1 + 1 := by have := World.block_lt_of_cell? _ _ c0; simp only at this; omega
  have hz3 : B < w.heap.size + 1 + 1 + 1 := by have := World.block_lt_of_cell? _ _ c0; simp only at this; omega
  have hn0 : ¬ B = w.heap.size := by omega
  have hm0 : ¬ w.heap.size = B := by omega
  have hn1 : ¬ B = w.heap.size + 1 := by omega
  have hm1 : ¬ w.heap.size + 1 = B := by omega
  have hn2 : ¬ B = w.heap.size + 1 + 1 := by omega
  have hm2 : ¬ w.heap.size + 1 + 1 = B := by omega
  go_enter Try.func25, Try.ntmps25
  go_wp2
  refine bodyPost_ret (v := .tuple #[.agg #[.int .i64 3, .int .i64 st, .int .i64 ws, .int .i64 wn, .int .i64 ch, .int .i64 own, .int .i64 0, .int .i64 0], .bool true]) (by simp [results, Try.results25, go_sem]) rfl ⟨rfl, ?_⟩
  exact ⟨_, _, _, rfl⟩
set_option maxHeartbeats 2000000 in
set_option maxRecDepth 100000 in
theorem m_c2 (B : Nat) (st ws wn ch key f n own : Int) (w : World) (c0 : w.cell? ⟨B, 0, none⟩ = some (.int .i64 2)) (fz : w.frozen? ⟨B, 0, none⟩ = false)  : Calls Try.prog 25 #[.pointer (some ⟨B, 0, none⟩), .agg #[.int .i64 2, .int .i64 st, .int .i64 ws, .int .i64 wn, .int .i64 ch, .int .i64 key, .int .i64 f, .int .i64 n], .int .i64 own] w fun e w' => e = .returned (.tuple #[.agg #[.int .i64 3, .int .i64 st, .int .i64 ws, .int .i64 wn, .int .i64 ch, .int .i64 own, .int .i64 0, .int .i64 0], .bool true]) ∧ ∃ o1 o2 o3 : Obj, ((((w.setCell ⟨B, 0, none⟩ (.int .i64 2)).alloc o1).alloc o2).alloc o3) = w' := by
  have hz0 : B < w.heap.size := by have := World.block_lt_of_cell? _ _ c0; simp only at this; omega
  have hz1 : B < w.heap.size + 1 := by have := World.block_lt_of_cell? _ _ c0; simp only at this; omega
  have hz2 : B < w.heap.size + 1 + 1 := by have := World.block_lt_of_cell? _ _ c0; simp only at this; omega
  have hz3 : B < w.heap.size + 1 + 1 + 1 := by have := World.block_lt_of_cell? _ _ c0; simp only at this; omega
  have hn0 : ¬ B = w.heap.size := by omega
  have hm0 : ¬ w.heap.size = B := by omega
  have hn1 : ¬ B = w.heap.size + 1 := by omega
  have hm1 : ¬ w.heap.size + 1 = B := by omega
  have hn2 : ¬ B = w.heap.size + 1 + 1 := by omega
  have hm2 : ¬ w.heap.size + 1 + 1 = B := by omega
  go_enter Try.func25, Try.ntmps25
  go_wp2
  refine bodyPost_ret (v := .tuple #[.agg #[.int .i64 3, .int .i64 st, .int .i64 ws, .int .i64 wn, .int .i64 ch, .int .i64 own, .int .i64 0, .int .i64 0], .bool true]) (by simp [results, Try.results25, go_sem]) rfl ⟨rfl, ?_⟩
  exact ⟨_, _, _, rfl⟩
set_option maxHeartbeats 2000000 in
set_option maxRecDepth 100000 in
theorem m_c0 (B : Nat) (ph st ws wn ch key f n own : Int) (w : World) (c0 : w.cell? ⟨B, 0, none⟩ = some (.int .i64 ph)) (fz : w.frozen? ⟨B, 0, none⟩ = false) (h1 : (ph != 1) = true) (h2 : (ph != 2) = true) : Calls Try.prog 25 #[.pointer (some ⟨B, 0, none⟩), .agg #[.int .i64 2, .int .i64 st, .int .i64 ws, .int .i64 wn, .int .i64 ch, .int .i64 key, .int .i64 f, .int .i64 n], .int .i64 own] w fun e w' => e = .returned (.tuple #[.agg #[.int .i64 0, .int .i64 0, .int .i64 0, .int .i64 0, .int .i64 0, .int .i64 0, .int .i64 0, .int .i64 0], .bool false]) ∧ ∃ o1 o2 o3 : Obj, (((w.alloc o1).alloc o2).alloc o3) = w' := by
  have hz0 : B < w.heap.size := by have := World.block_lt_of_cell? _ _ c0; simp only at this; omega
  have hz1 : B < w.heap.size + 1 := by have := World.block_lt_of_cell? _ _ c0; simp only at this; omega
  have hz2 : B < w.heap.size + 1 + 1 := by have := World.block_lt_of_cell? _ _ c0; simp only at this; omega
  have hz3 : B < w.heap.size + 1 + 1 + 1 := by have := World.block_lt_of_cell? _ _ c0; simp only at this; omega
  have hn0 : ¬ B = w.heap.size := by omega
  have hm0 : ¬ w.heap.size = B := by omega
  have hn1 : ¬ B = w.heap.size + 1 := by omega
  have hm1 : ¬ w.heap.size + 1 = B := by omega
  have hn2 : ¬ B = w.heap.size + 1 + 1 := by omega
  have hm2 : ¬ w.heap.size + 1 + 1 = B := by omega
  go_enter Try.func25, Try.ntmps25
  go_wp2
  refine bodyPost_ret (v := .tuple #[.agg #[.int .i64 0, .int .i64 0, .int .i64 0, .int .i64 0, .int .i64 0, .int .i64 0, .int .i64 0, .int .i64 0], .bool false]) (by simp [results, Try.results25, go_sem]) rfl ⟨rfl, ?_⟩
  exact ⟨_, _, _, rfl⟩
set_option maxHeartbeats 2000000 in
set_option maxRecDepth 100000 in
theorem m_wy (B : Nat) (st ws wn ch f n own : Int) (w : World) (c0 : w.cell? ⟨B, 0, none⟩ = some (.int .i64 2)) (fz : w.frozen? ⟨B, 0, none⟩ = false)  : Calls Try.prog 25 #[.pointer (some ⟨B, 0, none⟩), .agg #[.int .i64 4, .int .i64 st, .int .i64 ws, .int .i64 wn, .int .i64 ch, .int .i64 own, .int .i64 f, .int .i64 n], .int .i64 own] w fun e w' => e = .returned (.tuple #[.agg #[.int .i64 0, .int .i64 0, .int .i64 0, .int .i64 0, .int .i64 0, .int .i64 0, .int .i64 0, .int .i64 0], .bool true]) ∧ ∃ o1 o2 o3 : Obj, ((((w.setCell ⟨B, 0, none⟩ (.int .i64 3)).alloc o1).alloc o2).alloc o3) = w' := by
  have hz0 : B < w.heap.size := by have := World.block_lt_of_cell? _ _ c0; simp only at this; omega
  have hz1 : B < w.heap.size + 1 := by have := World.block_lt_of_cell? _ _ c0; simp only at this; omega
  have hz2 : B < w.heap.size + 1 + 1 := by have := World.block_lt_of_cell? _ _ c0; simp only at this; omega
  have hz3 : B < w.heap.size + 1 + 1 + 1 := by have := World.block_lt_of_cell? _ _ c0; simp only at this; omega
  have hn0 : ¬ B = w.heap.size := by omega
  have hm0 : ¬ w.heap.size = B := by omega
  have hn1 : ¬ B = w.heap.size + 1 := by omega
  have hm1 : ¬ w.heap.size + 1 = B := by omega
  have hn2 : ¬ B = w.heap.size + 1 + 1 := by omega
  have hm2 : ¬ w.heap.size + 1 + 1 = B := by omega
  go_enter Try.func25, Try.ntmps25
  go_wp2
  refine bodyPost_ret (v := .tuple #[.agg #[.int .i64 0, .int .i64 0, .int .i64 0, .int .i64 0, .int .i64 0, .int .i64 0, .int .i64 0, .int .i64 0], .bool true]) (by simp [results, Try.results25, go_sem]) rfl ⟨rfl, ?_⟩
  exact ⟨_, _, _, rfl⟩
set_option maxHeartbeats 2000000 in
set_option maxRecDepth 100000 in
theorem m_wn (B : Nat) (st ws wn ch key f n own : Int) (w : World) (c0 : w.cell? ⟨B, 0, none⟩ = some (.int .i64 2)) (fz : w.frozen? ⟨B, 0, none⟩ = false) (h1 : (key == own) = false) : Calls Try.prog 25 #[.pointer (some ⟨B, 0, none⟩), .agg #[.int .i64 4, .int .i64 st, .int .i64 ws, .int .i64 wn, .int .i64 ch, .int .i64 key, .int .i64 f, .int .i64 n], .int .i64 own] w fun e w' => e = .returned (.tuple #[.agg #[.int .i64 0, .int .i64 0, .int .i64 0, .int .i64 0, .int .i64 0, .int .i64 0, .int .i64 0, .int .i64 0], .bool false]) ∧ ∃ o1 o2 o3 : Obj, (((w.alloc o1).alloc o2).alloc o3) = w' := by
  have hz0 : B < w.heap.size := by have := World.block_lt_of_cell? _ _ c0; simp only at this; omega
  have hz1 : B < w.heap.size + 1 := by have := World.block_lt_of_cell? _ _ c0; simp only at this; omega
  have hz2 : B < w.heap.size + 1 + 1 := by have := World.block_lt_of_cell? _ _ c0; simp only at this; omega
  have hz3 : B < w.heap.size + 1 + 1 + 1 := by have := World.block_lt_of_cell? _ _ c0; simp only at this; omega
  have hn0 : ¬ B = w.heap.size := by omega
  have hm0 : ¬ w.heap.size = B := by omega
  have hn1 : ¬ B = w.heap.size + 1 := by omega
  have hm1 : ¬ w.heap.size + 1 = B := by omega
  have hn2 : ¬ B = w.heap.size + 1 + 1 := by omega
  have hm2 : ¬ w.heap.size + 1 + 1 = B := by omega
  go_enter Try.func25, Try.ntmps25
  go_wp2
  refine bodyPost_ret (v := .tuple #[.agg #[.int .i64 0, .int .i64 0, .int .i64 0, .int .i64 0, .int .i64 0, .int .i64 0, .int .i64 0, .int .i64 0], .bool false]) (by simp [results, Try.results25, go_sem]) rfl ⟨rfl, ?_⟩
  exact ⟨_, _, _, rfl⟩
set_option maxHeartbeats 2000000 in
set_option maxRecDepth 100000 in
theorem m_w0 (B : Nat) (ph st ws wn ch key f n own : Int) (w : World) (c0 : w.cell? ⟨B, 0, none⟩ = some (.int .i64 ph)) (fz : w.frozen? ⟨B, 0, none⟩ = false) (h1 : (ph == 2) = false) : Calls Try.prog 25 #[.pointer (some ⟨B, 0, none⟩), .agg #[.int .i64 4, .int .i64 st, .int .i64 ws, .int .i64 wn, .int .i64 ch, .int .i64 key, .int .i64 f, .int .i64 n], .int .i64 own] w fun e w' => e = .returned (.tuple #[.agg #[.int .i64 0, .int .i64 0, .int .i64 0, .int .i64 0, .int .i64 0, .int .i64 0, .int .i64 0, .int .i64 0], .bool false]) ∧ ∃ o1 o2 o3 : Obj, (((w.alloc o1).alloc o2).alloc o3) = w' := by
  have hz0 : B < w.heap.size := by have := World.block_lt_of_cell? _ _ c0; simp only at this; omega
  have hz1 : B < w.heap.size + 1 := by have := World.block_lt_of_cell? _ _ c0; simp only at this; omega
  have hz2 : B < w.heap.size + 1 + 1 := by have := World.block_lt_of_cell? _ _ c0; simp only at this; omega
  have hz3 : B < w.heap.size + 1 + 1 + 1 := by have := World.block_lt_of_cell? _ _ c0; simp only at this; omega
  have hn0 : ¬ B = w.heap.size := by omega
  have hm0 : ¬ w.heap.size = B := by omega
  have hn1 : ¬ B = w.heap.size + 1 := by omega
  have hm1 : ¬ w.heap.size + 1 = B := by omega
  have hn2 : ¬ B = w.heap.size + 1 + 1 := by omega
  have hm2 : ¬ w.heap.size + 1 + 1 = B := by omega
  go_enter Try.func25, Try.ntmps25
  go_wp2
  refine bodyPost_ret (v := .tuple #[.agg #[.int .i64 0, .int .i64 0, .int .i64 0, .int .i64 0, .int .i64 0, .int .i64 0, .int .i64 0, .int .i64 0], .bool false]) (by simp [results, Try.results25, go_sem]) rfl ⟨rfl, ?_⟩
  exact ⟨_, _, _, rfl⟩
set_option maxHeartbeats 2000000 in
set_option maxRecDepth 100000 in
theorem m_d (B : Nat) (k ph st ws wn ch key f n own : Int) (w : World) (c0 : w.cell? ⟨B, 0, none⟩ = some (.int .i64 ph)) (fz : w.frozen? ⟨B, 0, none⟩ = false) (h1 : (k == 2) = false) (h2 : (k == 4) = false) : Calls Try.prog 25 #[.pointer (some ⟨B, 0, none⟩), .agg #[.int .i64 k, .int .i64 st, .int .i64 ws, .int .i64 wn, .int .i64 ch, .int .i64 key, .int .i64 f, .int .i64 n], .int .i64 own] w fun e w' => e = .returned (.tuple #[.agg #[.int .i64 0, .int .i64 0, .int .i64 0, .int .i64 0, .int .i64 0, .int .i64 0, .int .i64 0, .int .i64 0], .bool false]) ∧ ∃ o1 o2 o3 : Obj, (((w.alloc o1).alloc o2).alloc o3) = w' := by
  have hz0 : B < w.heap.size := by have := World.block_lt_of_cell? _ _ c0; simp only at this; omega
  have hz1 : B < w.heap.size + 1 := by have := World.block_lt_of_cell? _ _ c0; simp only at this; omega
  have hz2 : B < w.heap.size + 1 + 1 := by have := World.block_lt_of_cell? _ _ c0; simp only at this; omega
  have hz3 : B < w.heap.size + 1 + 1 + 1 := by have := World.block_lt_of_cell? _ _ c0; simp only at this; omega
  have hn0 : ¬ B = w.heap.size := by omega
  have hm0 : ¬ w.heap.size = B := by omega
  have hn1 : ¬ B = w.heap.size + 1 := by omega
  have hm1 : ¬ w.heap.size + 1 = B := by omega
  have hn2 : ¬ B = w.heap.size + 1 + 1 := by omega
  have hm2 : ¬ w.heap.size + 1 + 1 = B := by omega
  go_enter Try.func25, Try.ntmps25
  go_wp2
  refine bodyPost_ret (v := .tuple #[.agg #[.int .i64 0, .int .i64 0, .int .i64 0, .int .i64 0, .int .i64 0, .int .i64 0, .int .i64 0, .int .i64 0], .bool false]) (by simp [results, Try.results25, go_sem]) rfl ⟨rfl, ?_⟩
  exact ⟨_, _, _, rfl⟩
end Go.Proofs.Yteiiglefbbhinaa
