/-
  seal.Seal and seal.Open: what they answer, and below.
-/
import Derived.Test.YtncgeclkgmfppaaDoorH0
import Derived.WalkKit
import Derived.WalkSpells
import Derived.Below
import Derived.Deep.QuietTactic
import Derived.Deep.RegionHeld
import Derived.WalkLawsBesides
import Derived.Laws.EntriesVeiled
import Derived.BigQuiet
import Derived.Deep.RegionHeld3
import Derived.RowKit3
namespace Go.Proofs.YtncgeclkgmfppaaDoor
open Go.RowKit
set_option linter.unusedVariables false
set_option linter.unusedSimpArgs false
theorem sr_cell_more {w : World} {p : Addr} {v : Value} {o : Obj} (h : w.cell? p = some v) : (w.alloc o).cell? p = some v := by
  have hb : p.block < w.heap.size := by
    rcases Nat.lt_or_ge p.block w.heap.size with hlt | hge
    · exact hlt
    · simp [World.cell?, Array.getElem?_eq_none hge] at h
  rw [World.cell?_alloc_lt w o p hb]; exact h
theorem sr_quiet_left {P : Program} {f : FuncId} {args : Array Value} {w : World} {n : Nat} {v : Value}
    (h : Calls P f args (w.drewN n) fun e w' => e = .returned v ∧ w.drewN n = w') : Calls P f args (w.drewN n) fun e w'' => e = .returned v ∧ ∃ m, w'' = w.drewN m :=
  h.mono fun _ _ ⟨he, hm⟩ => ⟨he, n, hm.symm⟩
theorem sr_below_drewN' {B : Nat} {a w : World} (h : Below B a w) (n : Nat) : Below B a (w.drewN n) := ⟨h.os, h.tape, h.output, h.size, h.block⟩
theorem sr_below4 (w : World) (o1 o2 o3 o4 : Obj) : Below w.heap.size w ((((w.alloc o1).alloc o2).alloc o3).alloc o4) :=
  ((((Below.refl _ _).alloc (Nat.le_refl _) _).alloc (by simp) _).alloc (by simp; omega) _).alloc (by simp; omega) _
theorem sr_below4t {w w' : World} {o1 o2 o3 o4 : Obj} {n : Nat} (hb : Below n ((((w.alloc o1).alloc o2).alloc o3).alloc o4) w') (hn : w.heap.size ≤ n) : Below w.heap.size w w' :=
  (sr_below4 w o1 o2 o3 o4).trans (hb.mono hn)
theorem checked_no (v : Value) (w : World) : Calls Tryd.prog 85 #[v, .bool false] w fun e w' => e = .returned (.tuple #[.int .i64 0, .int .i64 1]) ∧ w = w' := by
  go_enter Tryd.func85, Tryd.ntmps85
  go_wp2
  go_ret2
  exact ⟨rfl, rfl⟩
theorem of_any (a : Int) (h0 : 0 ≤ a) (h1 : a ≤ 1000000000) (w : World) : Calls Tryd.prog 44 #[.int .i64 a] w fun e w' => e = .returned (.int .i64 (a / 2000)) ∧ w = w' := by
  go_enter Tryd.func44, Tryd.ntmps44
  go_wp2
  go_ret
  exact ⟨rfl, rfl⟩
theorem of_neg (a : Int) (w : World) : Calls Tryd.prog 44 #[.int .i64 a] w fun e w' => (∃ n : Int, e = .returned (.int .i64 n)) ∧ w = w' := by
  go_enter Tryd.func44, Tryd.ntmps44
  go_wp2
  go_ret
  exact ⟨⟨_, rfl⟩, rfl⟩
theorem slot_yes (a : Int) (h0 : 0 ≤ a) (h1 : a ≤ 1000000000) (w : World) : Calls Tryd.prog 86 #[.int .i64 a] w fun e w' => e = .returned (.bool true) ∧ w = w' := by
  go_enter Tryd.func86, Tryd.ntmps86
  go_wp2
  go_ret
  exact ⟨by simp, rfl⟩
theorem slot_no (a : Int) (h : a < 0 ∨ 1000000000 < a) (w : World) : Calls Tryd.prog 86 #[.int .i64 a] w fun e w' => e = .returned (.bool false) ∧ w = w' := by
  rcases h with h | h
  · go_enter Tryd.func86, Tryd.ntmps86
    go_wp2
    go_ret
    exact ⟨rfl, rfl⟩
  · have h0 : 0 ≤ a := by omega
    have h1 : decide (a ≤ 1000000000) = false := decide_eq_false (by omega)
    go_enter Tryd.func86, Tryd.ntmps86
    go_wp2
    go_ret
    exact ⟨rfl, rfl⟩
theorem num_any (a : Int) (h0 : 0 ≤ a) (h1 : a ≤ 1000000000) (w : World) : Calls Tryd.prog 51 #[.int .i64 a] w fun e w' => e = .returned (.int .i64 (a + 1)) ∧ w = w' := by
  go_enter Tryd.func51, Tryd.ntmps51
  go_wp2
  go_ret
  exact ⟨rfl, rfl⟩
theorem meth_epoch (a : Int) (w : World) : (method 284 83 (.int .i64 a) "slotmesh/seal.number").run Tryd.prog w = .ok (51, .int .i64 a) w := by kernel_rfl
theorem checked_epoch (a : Int) (h0 : 0 ≤ a) (h1 : a ≤ 1000000000) (w : World) : Calls Tryd.prog 85 #[.iface 83 (.int .i64 a), .bool true] w fun e w' => e = .returned (.tuple #[.int .i64 (a + 1), .int .i64 0]) ∧ w = w' := by
  have hm := meth_epoch a
  go_enter Tryd.func85, Tryd.ntmps85
  go_wp2_with (go_at_call 51; refine (num_any _ h0 h1 _).mono ?_; rintro e w' ⟨rfl, rfl⟩)
  go_ret2
  exact ⟨rfl, rfl⟩
theorem key_yes (a : Int) (h0 : 0 ≤ a) (h1 : a ≤ 1000000000) (w : World) : Calls Tryd.prog 43 #[.int .i64 a] w fun e w' => e = .returned (.tuple #[.int .i64 (a / 2000 + 1), .int .i64 0]) ∧ w = w' := by
  go_enter Tryd.func43, Tryd.ntmps43
  go_wp2_with (first
    | (go_at_call 44; refine (of_any _ h0 h1 _).mono ?_; rintro e w' ⟨rfl, rfl⟩)
    | (go_at_call 86; refine (slot_yes _ h0 h1 _).mono ?_; rintro e w' ⟨rfl, rfl⟩)
    | (go_at_call 85; refine (checked_epoch _ (by omega) (by omega) _).mono ?_; rintro e w' ⟨rfl, rfl⟩))
  go_ret2
  exact ⟨rfl, rfl⟩
theorem key_no (a : Int) (h : a < 0 ∨ 1000000000 < a) (w : World) : Calls Tryd.prog 43 #[.int .i64 a] w fun e w' => e = .returned (.tuple #[.int .i64 0, .int .i64 1]) ∧ w = w' := by
  go_enter Tryd.func43, Tryd.ntmps43
  go_wp2_with (first
    | (go_at_call 44; refine (of_neg _ _).mono ?_; rintro e w' ⟨⟨n, rfl⟩, rfl⟩)
    | (go_at_call 86; refine (slot_no _ h _).mono ?_; rintro e w' ⟨rfl, rfl⟩)
    | (go_at_call 85; refine (checked_no _ _).mono ?_; rintro e w' ⟨rfl, rfl⟩))
  go_ret2
  exact ⟨rfl, rfl⟩
theorem unless_yes (n : Int) (w : World) : Calls Tryd.prog 49 #[.bool true, .int .i64 n] w fun e w' => e = .returned (.int .i64 0) ∧ w = w' := by
  go_enter Tryd.func49, Tryd.ntmps49
  go_wp2
  go_ret
  exact ⟨rfl, rfl⟩
theorem unless_no (n : Int) (w : World) : Calls Tryd.prog 49 #[.bool false, .int .i64 n] w fun e w' => e = .returned (.int .i64 n) ∧ w = w' := by
  go_enter Tryd.func49, Tryd.ntmps49
  go_wp2
  go_ret
  exact ⟨rfl, rfl⟩
theorem knows_yes (n x y : Int) (h0 : x ≤ n) (h1 : n < y) (w : World) : Calls Tryd.prog 45 #[.int .i64 n, .agg #[.int .i64 x, .int .i64 y]] w fun e w' => e = .returned (.bool true) ∧ w.alloc (.cells #[.int .i64 x, .int .i64 y] 25) = w' := by
  have h2 : decide (x ≤ n) = true := decide_eq_true h0
  have h3 : decide (n < y) = true := decide_eq_true h1
  go_enter Tryd.func45, Tryd.ntmps45
  go_wp2
  go_ret
  exact ⟨rfl, rfl⟩
theorem o1_yes (A : Nat) (b : Int) (h0 : 0 ≤ b) (h1 : b ≤ 1000000000) (w : World) (hb : w.cell? ⟨A, 0, none⟩ = some (.int .i64 b)) : Calls Tryd.prog 47 #[.pointer (some ⟨A, 0, none⟩)] w fun e w' => e = .returned (.int .i64 0) ∧ w = w' := by
  go_enter Tryd.func47, Tryd.ntmps47
  go_wp2_with (first
    | (go_at_call 43; refine (key_yes _ h0 h1 _).mono ?_; rintro e w' ⟨rfl, rfl⟩))
  go_ret
  exact ⟨rfl, rfl⟩
theorem o2_yes (A B : Nat) (b : Int) (w : World) (ha : w.cell? ⟨A, 3, none⟩ = some (.int .i64 b)) (hb : w.cell? ⟨B, 0, none⟩ = some (.int .i64 b)) : Calls Tryd.prog 48 #[.pointer (some ⟨A, 0, none⟩), .pointer (some ⟨B, 0, none⟩)] w fun e w' => e = .returned (.int .i64 0) ∧ w = w' := by
  go_enter Tryd.func48, Tryd.ntmps48
  go_wp2_with (first
    | (go_at_call 49; refine (unless_yes _ _).mono ?_; rintro e w' ⟨rfl, rfl⟩))
  go_ret
  exact ⟨rfl, rfl⟩
theorem o3_yes (A B C : Nat) (b x y : Int) (h0 : 0 ≤ b) (h1 : b ≤ 1000000000) (h2 : x ≤ b / 2000) (h3 : b / 2000 < y) (w : World) (ha : w.cell? ⟨A, 4, none⟩ = some (.int .i64 (b / 2000 + 1))) (hb : w.cell? ⟨B, 0, none⟩ = some (.int .i64 b)) (hc : w.cell? ⟨C, 0, none⟩ = some (.int .i64 x)) (hd : w.cell? ⟨C, 1, none⟩ = some (.int .i64 y)) : Calls Tryd.prog 50 #[.pointer (some ⟨A, 0, none⟩), .pointer (some ⟨B, 0, none⟩), .pointer (some ⟨C, 0, none⟩)] w fun e w' => e = .returned (.int .i64 0) ∧ Below w.heap.size w w' := by
  go_enter Tryd.func50, Tryd.ntmps50
  go_wp2
  go_region_held3 (fun w' => w'.cell? ⟨A, 4, none⟩ = some (.int .i64 (b / 2000 + 1)) ∧ w'.cell? ⟨B, 0, none⟩ = some (.int .i64 b) ∧ w'.cell? ⟨C, 0, none⟩ = some (.int .i64 x) ∧ w'.cell? ⟨C, 1, none⟩ = some (.int .i64 y)) (first | exact ⟨ha, hb, hc, hd⟩ | exact ⟨sr_cell_more ha, sr_cell_more hb, sr_cell_more hc, sr_cell_more hd⟩)
    (first
      | (go_at_call 49; refine (unless_yes _ _).mono ?_; rintro e w' ⟨rfl, rfl⟩)
      | (go_at_call 44; refine (of_any _ h0 h1 _).mono ?_; rintro e w' ⟨rfl, rfl⟩)
      | (go_at_call 51; refine (num_any _ (by omega) (by omega) _).mono ?_; rintro e w' ⟨rfl, rfl⟩)
      | (go_at_call 45; refine (knows_yes _ _ _ h2 h3 _).mono ?_; rintro e w' ⟨rfl, rfl⟩))
  go_wp2
  go_ret
  exact ⟨rfl, by repeat (first | exact Below.refl _ _ | apply Below.drew | refine Below.alloc ?_ (Nat.le_refl _) _)⟩

theorem knows_no (n x y : Int) (h : n < x ∨ y ≤ n) (w : World) : Calls Tryd.prog 45 #[.int .i64 n, .agg #[.int .i64 x, .int .i64 y]] w fun e w' => e = .returned (.bool false) ∧ w.alloc (.cells #[.int .i64 x, .int .i64 y] 25) = w' := by
  rcases Int.lt_or_le n x with h' | h'
  · have h2 : decide (x ≤ n) = false := decide_eq_false (by omega)
    go_enter Tryd.func45, Tryd.ntmps45
    go_wp2
    go_ret
    exact ⟨rfl, rfl⟩
  · have h2 : decide (x ≤ n) = true := decide_eq_true h'
    have h3 : decide (n < y) = false := decide_eq_false (by omega)
    go_enter Tryd.func45, Tryd.ntmps45
    go_wp2
    go_ret
    exact ⟨rfl, rfl⟩
theorem o1_no (A : Nat) (b : Int) (h : b < 0 ∨ 1000000000 < b) (w : World) (hb : w.cell? ⟨A, 0, none⟩ = some (.int .i64 b)) : Calls Tryd.prog 47 #[.pointer (some ⟨A, 0, none⟩)] w fun e w' => e = .returned (.int .i64 1) ∧ w = w' := by
  go_enter Tryd.func47, Tryd.ntmps47
  go_wp2_with (first
    | (go_at_call 43; refine (key_no _ h _).mono ?_; rintro e w' ⟨rfl, rfl⟩))
  go_ret
  exact ⟨rfl, rfl⟩
theorem o2_no (A B : Nat) (a b : Int) (h : a ≠ b) (w : World) (ha : w.cell? ⟨A, 3, none⟩ = some (.int .i64 a)) (hb : w.cell? ⟨B, 0, none⟩ = some (.int .i64 b)) : Calls Tryd.prog 48 #[.pointer (some ⟨A, 0, none⟩), .pointer (some ⟨B, 0, none⟩)] w fun e w' => e = .returned (.int .i64 14) ∧ w = w' := by
  have h' : (a == b) = false := beq_eq_false_iff_ne.2 h
  clear h
  go_enter Tryd.func48, Tryd.ntmps48
  go_wp2_with (first
    | (go_at_call 49; refine (unless_no _ _).mono ?_; rintro e w' ⟨rfl, rfl⟩))
  go_ret
  exact ⟨rfl, rfl⟩
theorem o3_no1 (A B C : Nat) (b x y k : Int) (h0 : 0 ≤ b) (h1 : b ≤ 1000000000) (h2 : k ≠ b / 2000 + 1) (w : World) (ha : w.cell? ⟨A, 4, none⟩ = some (.int .i64 k)) (hb : w.cell? ⟨B, 0, none⟩ = some (.int .i64 b)) (hc : w.cell? ⟨C, 0, none⟩ = some (.int .i64 x)) (hd : w.cell? ⟨C, 1, none⟩ = some (.int .i64 y)) : Calls Tryd.prog 50 #[.pointer (some ⟨A, 0, none⟩), .pointer (some ⟨B, 0, none⟩), .pointer (some ⟨C, 0, none⟩)] w fun e w' => e = .returned (.int .i64 13) ∧ Below w.heap.size w w' := by
  have h' : (k == b / 2000 + 1) = false := beq_eq_false_iff_ne.2 h2
  clear h2
  go_enter Tryd.func50, Tryd.ntmps50
  go_wp2
  go_quiet ((first | (go_at_call 49; exact sr_quiet_left (unless_no _ _)) | (go_at_call 44; exact sr_quiet_left (of_any _ h0 h1 _)) | (go_at_call 51; exact sr_quiet_left (num_any _ (by omega) (by omega) _))))
  go_wp2
  go_ret
  exact ⟨rfl, sr_below_drewN' (Below.refl _ _) _⟩
theorem o3_no2 (A B C : Nat) (b x y : Int) (h0 : 0 ≤ b) (h1 : b ≤ 1000000000) (h : b / 2000 < x ∨ y ≤ b / 2000) (w : World) (ha : w.cell? ⟨A, 4, none⟩ = some (.int .i64 (b / 2000 + 1))) (hb : w.cell? ⟨B, 0, none⟩ = some (.int .i64 b)) (hc : w.cell? ⟨C, 0, none⟩ = some (.int .i64 x)) (hd : w.cell? ⟨C, 1, none⟩ = some (.int .i64 y)) : Calls Tryd.prog 50 #[.pointer (some ⟨A, 0, none⟩), .pointer (some ⟨B, 0, none⟩), .pointer (some ⟨C, 0, none⟩)] w fun e w' => e = .returned (.int .i64 13) ∧ Below w.heap.size w w' := by
  go_enter Tryd.func50, Tryd.ntmps50
  go_wp2
  go_region_held3 (fun w' => w'.cell? ⟨A, 4, none⟩ = some (.int .i64 (b / 2000 + 1)) ∧ w'.cell? ⟨B, 0, none⟩ = some (.int .i64 b) ∧ w'.cell? ⟨C, 0, none⟩ = some (.int .i64 x) ∧ w'.cell? ⟨C, 1, none⟩ = some (.int .i64 y)) (first | exact ⟨ha, hb, hc, hd⟩ | exact ⟨sr_cell_more ha, sr_cell_more hb, sr_cell_more hc, sr_cell_more hd⟩)
    (first
      | (go_at_call 49; refine (unless_no _ _).mono ?_; rintro e w' ⟨rfl, rfl⟩)
      | (go_at_call 44; refine (of_any _ h0 h1 _).mono ?_; rintro e w' ⟨rfl, rfl⟩)
      | (go_at_call 51; refine (num_any _ (by omega) (by omega) _).mono ?_; rintro e w' ⟨rfl, rfl⟩)
      | (go_at_call 45; refine (knows_no _ _ _ h _).mono ?_; rintro e w' ⟨rfl, rfl⟩))
  go_wp2
  go_ret
  exact ⟨rfl, by repeat (first | exact Below.refl _ _ | apply Below.drew | refine Below.alloc ?_ (Nat.le_refl _) _)⟩
theorem ix0 (w : World) (A B C : Addr) : (Instr.index 91 (.agg #[.func (.func 47) #[] #[.pointer (some C)], .func (.func 48) #[] #[.pointer (some A), .pointer (some C)], .func (.func 50) #[] #[.pointer (some A), .pointer (some C), .pointer (some B)]]) (.int .i64 0)).run Tryd.prog w = .ok (.func (.func 47) #[] #[.pointer (some C)]) w := by kernel_rfl
theorem ix1 (w : World) (A B C : Addr) : (Instr.index 91 (.agg #[.func (.func 47) #[] #[.pointer (some C)], .func (.func 48) #[] #[.pointer (some A), .pointer (some C)], .func (.func 50) #[] #[.pointer (some A), .pointer (some C), .pointer (some B)]]) (.int .i64 1)).run Tryd.prog w = .ok (.func (.func 48) #[] #[.pointer (some A), .pointer (some C)]) w := by kernel_rfl
theorem ix2 (w : World) (A B C : Addr) : (Instr.index 91 (.agg #[.func (.func 47) #[] #[.pointer (some C)], .func (.func 48) #[] #[.pointer (some A), .pointer (some C)], .func (.func 50) #[] #[.pointer (some A), .pointer (some C), .pointer (some B)]]) (.int .i64 2)).run Tryd.prog w = .ok (.func (.func 50) #[] #[.pointer (some A), .pointer (some C), .pointer (some B)]) w := by kernel_rfl
set_option maxRecDepth 100000 in
theorem open_no1 (k fr t_o a key : Int) (bv : Value) (x y : Int) (b : Int) (h : b < 0 ∨ 1000000000 < b) (w : World) : Calls Tryd.prog 16 #[.agg #[.int .i64 k, .int .i64 fr, .int .i64 t_o, .int .i64 a, .int .i64 key, bv], .agg #[.int .i64 x, .int .i64 y], .int .i64 b] w fun e w' => e = .returned (.int .i64 1) ∧ Below w.heap.size w w' := by
  have i0 := ix0
  have i1 := ix1
  have i2 := ix2
  go_enter Tryd.func16, Tryd.ntmps16
  go_wp2_with fail
  refine wp_loop_rounds 1 ?_
  rw [rounds_succ]
  go_wp2_with (first | (go_at_call 47; refine (o1_no _ _ h _ ?pc).mono ?_; (case pc => go_simp); rintro e w' ⟨rfl, rfl⟩))
  go_ret
  first | exact ⟨rfl, sr_below4 _ _ _ _ _⟩ | exact ⟨rfl, sr_below4t hb (by simp; omega)⟩
set_option maxRecDepth 100000 in
theorem open_no2 (k fr t_o a key : Int) (bv : Value) (x y : Int) (b : Int) (h0 : 0 ≤ b) (h1 : b ≤ 1000000000) (h : a ≠ b) (w : World) : Calls Tryd.prog 16 #[.agg #[.int .i64 k, .int .i64 fr, .int .i64 t_o, .int .i64 a, .int .i64 key, bv], .agg #[.int .i64 x, .int .i64 y], .int .i64 b] w fun e w' => e = .returned (.int .i64 14) ∧ Below w.heap.size w w' := by
  have i0 := ix0
  have i1 := ix1
  have i2 := ix2
  go_enter Tryd.func16, Tryd.ntmps16
  go_wp2_with fail
  refine wp_loop_rounds 2 ?_
  rw [rounds_succ]
  go_wp2_with (first | (go_at_call 47; refine (o1_yes _ _ h0 h1 _ ?pc).mono ?_; (case pc => go_simp); rintro e w' ⟨rfl, rfl⟩) | (go_at_call 48; refine (o2_no _ _ _ _ h _ ?qc ?qd).mono ?_; (case qc => go_simp); (case qd => go_simp); rintro e w' ⟨rfl, rfl⟩))
  rw [rounds_succ]
  go_wp2_with (first | (go_at_call 47; refine (o1_yes _ _ h0 h1 _ ?pc).mono ?_; (case pc => go_simp); rintro e w' ⟨rfl, rfl⟩) | (go_at_call 48; refine (o2_no _ _ _ _ h _ ?qc ?qd).mono ?_; (case qc => go_simp); (case qd => go_simp); rintro e w' ⟨rfl, rfl⟩))
  go_ret
  first | exact ⟨rfl, sr_below4 _ _ _ _ _⟩ | exact ⟨rfl, sr_below4t hb (by simp; omega)⟩
set_option maxRecDepth 100000 in
theorem open_no3 (k fr t_o key : Int) (bv : Value) (x y : Int) (b : Int) (h0 : 0 ≤ b) (h1 : b ≤ 1000000000) (h : key ≠ b / 2000 + 1) (w : World) : Calls Tryd.prog 16 #[.agg #[.int .i64 k, .int .i64 fr, .int .i64 t_o, .int .i64 b, .int .i64 key, bv], .agg #[.int .i64 x, .int .i64 y], .int .i64 b] w fun e w' => e = .returned (.int .i64 13) ∧ Below w.heap.size w w' := by
  have i0 := ix0
  have i1 := ix1
  have i2 := ix2
  go_enter Tryd.func16, Tryd.ntmps16
  go_wp2_with fail
  refine wp_loop_rounds 3 ?_
  rw [rounds_succ]
  go_wp2_with (first | (go_at_call 47; refine (o1_yes _ _ h0 h1 _ ?pc).mono ?_; (case pc => go_simp); rintro e w' ⟨rfl, rfl⟩) | (go_at_call 48; refine (o2_yes _ _ b _ ?qc ?qd).mono ?_; (case qc => go_simp); (case qd => go_simp); rintro e w' ⟨rfl, rfl⟩) | (go_at_call 50; refine (o3_no1 _ _ _ b x y key h0 h1 h _ ?rc ?rd ?re ?rf).mono ?_; (case rc => go_simp); (case rd => go_simp); (case re => go_simp); (case rf => go_simp); rintro e w' ⟨rfl, hb⟩))
  rw [rounds_succ]
  go_wp2_with (first | (go_at_call 47; refine (o1_yes _ _ h0 h1 _ ?pc).mono ?_; (case pc => go_simp); rintro e w' ⟨rfl, rfl⟩) | (go_at_call 48; refine (o2_yes _ _ b _ ?qc ?qd).mono ?_; (case qc => go_simp); (case qd => go_simp); rintro e w' ⟨rfl, rfl⟩) | (go_at_call 50; refine (o3_no1 _ _ _ b x y key h0 h1 h _ ?rc ?rd ?re ?rf).mono ?_; (case rc => go_simp); (case rd => go_simp); (case re => go_simp); (case rf => go_simp); rintro e w' ⟨rfl, hb⟩))
  rw [rounds_succ]
  go_wp2_with (first | (go_at_call 47; refine (o1_yes _ _ h0 h1 _ ?pc).mono ?_; (case pc => go_simp); rintro e w' ⟨rfl, rfl⟩) | (go_at_call 48; refine (o2_yes _ _ b _ ?qc ?qd).mono ?_; (case qc => go_simp); (case qd => go_simp); rintro e w' ⟨rfl, rfl⟩) | (go_at_call 50; refine (o3_no1 _ _ _ b x y key h0 h1 h _ ?rc ?rd ?re ?rf).mono ?_; (case rc => go_simp); (case rd => go_simp); (case re => go_simp); (case rf => go_simp); rintro e w' ⟨rfl, hb⟩))
  go_ret
  first | exact ⟨rfl, sr_below4 _ _ _ _ _⟩ | exact ⟨rfl, sr_below4t hb (by simp; omega)⟩
set_option maxRecDepth 100000 in
theorem open_no4 (k fr t_o : Int) (bv : Value) (x y : Int) (b : Int) (h0 : 0 ≤ b) (h1 : b ≤ 1000000000) (h : b / 2000 < x ∨ y ≤ b / 2000) (w : World) : Calls Tryd.prog 16 #[.agg #[.int .i64 k, .int .i64 fr, .int .i64 t_o, .int .i64 b, .int .i64 (b / 2000 + 1), bv], .agg #[.int .i64 x, .int .i64 y], .int .i64 b] w fun e w' => e = .returned (.int .i64 13) ∧ Below w.heap.size w w' := by
  have i0 := ix0
  have i1 := ix1
  have i2 := ix2
  go_enter Tryd.func16, Tryd.ntmps16
  go_wp2_with fail
  refine wp_loop_rounds 3 ?_
  rw [rounds_succ]
  go_wp2_with (first | (go_at_call 47; refine (o1_yes _ _ h0 h1 _ ?pc).mono ?_; (case pc => go_simp); rintro e w' ⟨rfl, rfl⟩) | (go_at_call 48; refine (o2_yes _ _ b _ ?qc ?qd).mono ?_; (case qc => go_simp); (case qd => go_simp); rintro e w' ⟨rfl, rfl⟩) | (go_at_call 50; refine (o3_no2 _ _ _ b x y h0 h1 h _ ?rc ?rd ?re ?rf).mono ?_; (case rc => go_simp); (case rd => go_simp); (case re => go_simp); (case rf => go_simp); rintro e w' ⟨rfl, hb⟩))
  rw [rounds_succ]
  go_wp2_with (first | (go_at_call 47; refine (o1_yes _ _ h0 h1 _ ?pc).mono ?_; (case pc => go_simp); rintro e w' ⟨rfl, rfl⟩) | (go_at_call 48; refine (o2_yes _ _ b _ ?qc ?qd).mono ?_; (case qc => go_simp); (case qd => go_simp); rintro e w' ⟨rfl, rfl⟩) | (go_at_call 50; refine (o3_no2 _ _ _ b x y h0 h1 h _ ?rc ?rd ?re ?rf).mono ?_; (case rc => go_simp); (case rd => go_simp); (case re => go_simp); (case rf => go_simp); rintro e w' ⟨rfl, hb⟩))
  rw [rounds_succ]
  go_wp2_with (first | (go_at_call 47; refine (o1_yes _ _ h0 h1 _ ?pc).mono ?_; (case pc => go_simp); rintro e w' ⟨rfl, rfl⟩) | (go_at_call 48; refine (o2_yes _ _ b _ ?qc ?qd).mono ?_; (case qc => go_simp); (case qd => go_simp); rintro e w' ⟨rfl, rfl⟩) | (go_at_call 50; refine (o3_no2 _ _ _ b x y h0 h1 h _ ?rc ?rd ?re ?rf).mono ?_; (case rc => go_simp); (case rd => go_simp); (case re => go_simp); (case rf => go_simp); rintro e w' ⟨rfl, hb⟩))
  go_ret
  first | exact ⟨rfl, sr_below4 _ _ _ _ _⟩ | exact ⟨rfl, sr_below4t hb (by simp; omega)⟩
set_option maxRecDepth 100000 in
theorem open_yes (k fr t_o : Int) (bv : Value) (x y : Int) (b : Int) (h0 : 0 ≤ b) (h1 : b ≤ 1000000000) (h2 : x ≤ b / 2000) (h3 : b / 2000 < y) (w : World) : Calls Tryd.prog 16 #[.agg #[.int .i64 k, .int .i64 fr, .int .i64 t_o, .int .i64 b, .int .i64 (b / 2000 + 1), bv], .agg #[.int .i64 x, .int .i64 y], .int .i64 b] w fun e w' => e = .returned (.int .i64 0) ∧ Below w.heap.size w w' := by
  have i0 := ix0
  have i1 := ix1
  have i2 := ix2
  go_enter Tryd.func16, Tryd.ntmps16
  go_wp2_with fail
  refine wp_loop_rounds 4 ?_
  rw [rounds_succ]
  go_wp2_with (first | (go_at_call 47; refine (o1_yes _ _ h0 h1 _ ?pc).mono ?_; (case pc => go_simp); rintro e w' ⟨rfl, rfl⟩) | (go_at_call 48; refine (o2_yes _ _ b _ ?qc ?qd).mono ?_; (case qc => go_simp); (case qd => go_simp); rintro e w' ⟨rfl, rfl⟩) | (go_at_call 50; refine (o3_yes _ _ _ b x y h0 h1 h2 h3 _ ?rc ?rd ?re ?rf).mono ?_; (case rc => go_simp); (case rd => go_simp); (case re => go_simp); (case rf => go_simp); rintro e w' ⟨rfl, hb⟩))
  rw [rounds_succ]
  go_wp2_with (first | (go_at_call 47; refine (o1_yes _ _ h0 h1 _ ?pc).mono ?_; (case pc => go_simp); rintro e w' ⟨rfl, rfl⟩) | (go_at_call 48; refine (o2_yes _ _ b _ ?qc ?qd).mono ?_; (case qc => go_simp); (case qd => go_simp); rintro e w' ⟨rfl, rfl⟩) | (go_at_call 50; refine (o3_yes _ _ _ b x y h0 h1 h2 h3 _ ?rc ?rd ?re ?rf).mono ?_; (case rc => go_simp); (case rd => go_simp); (case re => go_simp); (case rf => go_simp); rintro e w' ⟨rfl, hb⟩))
  rw [rounds_succ]
  go_wp2_with (first | (go_at_call 47; refine (o1_yes _ _ h0 h1 _ ?pc).mono ?_; (case pc => go_simp); rintro e w' ⟨rfl, rfl⟩) | (go_at_call 48; refine (o2_yes _ _ b _ ?qc ?qd).mono ?_; (case qc => go_simp); (case qd => go_simp); rintro e w' ⟨rfl, rfl⟩) | (go_at_call 50; refine (o3_yes _ _ _ b x y h0 h1 h2 h3 _ ?rc ?rd ?re ?rf).mono ?_; (case rc => go_simp); (case rd => go_simp); (case re => go_simp); (case rf => go_simp); rintro e w' ⟨rfl, hb⟩))
  rw [rounds_succ]
  go_wp2_with (first | (go_at_call 47; refine (o1_yes _ _ h0 h1 _ ?pc).mono ?_; (case pc => go_simp); rintro e w' ⟨rfl, rfl⟩) | (go_at_call 48; refine (o2_yes _ _ b _ ?qc ?qd).mono ?_; (case qc => go_simp); (case qd => go_simp); rintro e w' ⟨rfl, rfl⟩) | (go_at_call 50; refine (o3_yes _ _ _ b x y h0 h1 h2 h3 _ ?rc ?rd ?re ?rf).mono ?_; (case rc => go_simp); (case rd => go_simp); (case re => go_simp); (case rf => go_simp); rintro e w' ⟨rfl, hb⟩))
  go_ret
  first | exact ⟨rfl, sr_below4 _ _ _ _ _⟩ | exact ⟨rfl, sr_below4t hb (by simp; omega)⟩

/-- What Open answers. -/
def openE (a key x y b : Int) : Int := if b < 0 ∨ 1000000000 < b then 1 else if a ≠ b then 14 else if key = b / 2000 + 1 ∧ x ≤ b / 2000 ∧ b / 2000 < y then 0 else 13
/-- What Seal answers: may it seal, and its error where it may not. -/
def sealOk (a x y : Int) : Prop := 0 ≤ a ∧ a ≤ 1000000000 ∧ x ≤ a / 2000 ∧ a / 2000 < y
theorem open_all (k fr t_o a key : Int) (bv : Value) (x y : Int) (b : Int) (w : World) : Calls Tryd.prog 16 #[.agg #[.int .i64 k, .int .i64 fr, .int .i64 t_o, .int .i64 a, .int .i64 key, bv], .agg #[.int .i64 x, .int .i64 y], .int .i64 b] w fun e w' => e = .returned (.int .i64 (openE a key x y b)) ∧ Below w.heap.size w w' := by
  unfold openE
  by_cases h : b < 0 ∨ 1000000000 < b
  · rw [if_pos h]; exact open_no1 k fr t_o a key bv x y b h w
  rw [if_neg h]
  by_cases h2 : a ≠ b
  · rw [if_pos h2]; exact open_no2 k fr t_o a key bv x y b (by omega) (by omega) h2 w
  rw [if_neg h2]
  obtain rfl : a = b := by omega
  by_cases h3 : key = a / 2000 + 1
  · subst h3
    by_cases h4 : x ≤ a / 2000 ∧ a / 2000 < y
    · rw [if_pos ⟨rfl, h4.1, h4.2⟩]; exact open_yes k fr t_o bv x y a (by omega) (by omega) h4.1 h4.2 w
    · rw [if_neg (fun h => h4 ⟨h.2.1, h.2.2⟩)]; exact open_no4 k fr t_o bv x y a (by omega) (by omega) (by omega) w
  · rw [if_neg (fun h => h3 h.1)]; exact open_no3 k fr t_o key bv x y a (by omega) (by omega) h3 w
set_option maxRecDepth 100000 in
theorem seal_yes (k fr t_o a key : Int) (A : Option Addr) (n c : Nat) (x y : Int) (h0 : 0 ≤ a) (h1 : a ≤ 1000000000) (h2 : x ≤ a / 2000) (h3 : a / 2000 < y) (w : World) : Calls Tryd.prog 14 #[.agg #[.int .i64 k, .int .i64 fr, .int .i64 t_o, .int .i64 a, .int .i64 key, .slice A n c], .agg #[.int .i64 x, .int .i64 y]] w fun e w' => e = .returned (.tuple #[.agg #[.int .i64 k, .int .i64 fr, .int .i64 t_o, .int .i64 a, .int .i64 (a / 2000 + 1), .slice A n c], .int .i64 0]) ∧ Below w.heap.size w w' := by
  go_enter Tryd.func14, Tryd.ntmps14
  go_wp2_with (first
    | (go_at_call 43; refine (key_yes _ h0 h1 _).mono ?_; rintro e w' ⟨rfl, rfl⟩))
  go_region_held3 (fun w' => w'.cell? ⟨w.heap.size, 3, none⟩ = some (.int .i64 a) ∧ w'.cell? ⟨w.heap.size + 1, 0, none⟩ = some (.int .i64 x) ∧ w'.cell? ⟨w.heap.size + 1, 1, none⟩ = some (.int .i64 y)) (simp [go_sem, World.cell?_alloc_past])
    (first
      | (go_at_call 44; refine (of_any _ h0 h1 _).mono ?_; rintro e w' ⟨rfl, rfl⟩)
      | (go_at_call 45; refine (knows_yes _ _ _ h2 h3 _).mono ?_; rintro e w' ⟨rfl, rfl⟩))
  go_wp2
  refine bodyPost_ret (v := .tuple #[.agg #[.int .i64 k, .int .i64 fr, .int .i64 t_o, .int .i64 a, .int .i64 (a / 2000 + 1), .slice A n c], .int .i64 0]) (by simp [results, Tryd.results14, go_sem]) rfl ⟨rfl, ?_⟩
  repeat (first | exact Below.refl _ _ | apply Below.drew | refine Below.alloc ?_ (by simp <;> omega) _ | refine Below.setCell ?_ (by simp) _)
theorem seal_ok (k fr t_o a key : Int) (A : Option Addr) (n c : Nat) (x y : Int) (h : sealOk a x y) (w : World) : Calls Tryd.prog 14 #[.agg #[.int .i64 k, .int .i64 fr, .int .i64 t_o, .int .i64 a, .int .i64 key, .slice A n c], .agg #[.int .i64 x, .int .i64 y]] w fun e w' => e = .returned (.tuple #[.agg #[.int .i64 k, .int .i64 fr, .int .i64 t_o, .int .i64 a, .int .i64 (a / 2000 + 1), .slice A n c], .int .i64 0]) ∧ Below w.heap.size w w' :=
  seal_yes k fr t_o a key A n c x y h.1 h.2.1 h.2.2.1 h.2.2.2 w
end Go.Proofs.YtncgeclkgmfppaaDoor
