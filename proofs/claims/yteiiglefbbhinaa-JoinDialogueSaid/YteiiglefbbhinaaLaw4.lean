/-
  JoinDialogue: the walks of the law on package join, for every input: asking, the challenge, its proof, the judgement of the root and its welcome lead the stranger in, in frames that are not late.
-/
import Derived.Test.YteiiglefbbhinaaLaw4e
import Derived.WalkLawsBesides
import Derived.BigQuiet
import Derived.Deep.RegionHeld3
import Derived.Deep.DeepCutAuto
import Derived.LoopTactic
import Derived.Deep.RegionWith
import Derived.Lib.Hide
namespace Go.Proofs.Yteiiglefbbhinaa
open Go.RowKit
set_option linter.unusedVariables false
set_option linter.unusedSimpArgs false
theorem cell_away {w : World} {b c o i : Nat} {v x : Value} (h : w.cell? ⟨b, o, none⟩ = some x) (hn : b ≠ c) : (w.setCell ⟨c, i, none⟩ v).cell? ⟨b, o, none⟩ = some x := by
  rw [World.cell?_setCell_far _ _ _ _ (fun e => hn e.symm)]; exact h
theorem blk_ne {w : World} {b o : Nat} {v : Value} (h : w.cell? ⟨b, o, none⟩ = some v) : b ≠ w.heap.size := Nat.ne_of_lt (World.block_lt_of_cell? _ _ h)
theorem blk_ne1 {w : World} {b o : Nat} {v : Value} (h : w.cell? ⟨b, o, none⟩ = some v) : b ≠ w.heap.size + 1 := by
  have := World.block_lt_of_cell? _ _ h
  simp at this
  omega
theorem lt_alloc {W : World} {b : Nat} {o : Obj} (h : b < W.heap.size) : b < (W.alloc o).heap.size := by simp; omega
theorem seen1 {W w1 : World} {o : Obj} (hb : Below (W.alloc o).heap.size (W.alloc o) w1) : (∀ i, w1.cell? ⟨W.heap.size, i, none⟩ = (W.alloc o).cell? ⟨W.heap.size, i, none⟩) ∧ (∀ i, w1.frozen? ⟨W.heap.size, i, none⟩ = (W.alloc o).frozen? ⟨W.heap.size, i, none⟩) ∧ W.heap.size < w1.heap.size := by
  obtain ⟨a, b, c, _⟩ := seen hb W.heap.size (by simp)
  exact ⟨a, b, c⟩
theorem seen2 {W w1 : World} {o o2 : Obj} (hb : Below ((W.alloc o).alloc o2).heap.size ((W.alloc o).alloc o2) w1) : ((∀ i, w1.cell? ⟨W.heap.size, i, none⟩ = ((W.alloc o).alloc o2).cell? ⟨W.heap.size, i, none⟩) ∧ (∀ i, w1.frozen? ⟨W.heap.size, i, none⟩ = ((W.alloc o).alloc o2).frozen? ⟨W.heap.size, i, none⟩) ∧ W.heap.size < w1.heap.size) ∧ ((∀ i, w1.cell? ⟨W.heap.size + 1, i, none⟩ = ((W.alloc o).alloc o2).cell? ⟨W.heap.size + 1, i, none⟩) ∧ (∀ i, w1.frozen? ⟨W.heap.size + 1, i, none⟩ = ((W.alloc o).alloc o2).frozen? ⟨W.heap.size + 1, i, none⟩) ∧ W.heap.size + 1 < w1.heap.size) := by
  obtain ⟨a, b, c, _⟩ := seen hb W.heap.size (by simp; omega)
  obtain ⟨a', b', c', _⟩ := seen hb (W.heap.size + 1) (by simp)
  exact ⟨⟨a, b, c⟩, a', b', c'⟩
theorem seen1d {W w1 : World} {o : Obj} (hb : Below (W.alloc o).drew.heap.size (W.alloc o).drew w1) : (∀ i, w1.cell? ⟨W.heap.size, i, none⟩ = (W.alloc o).cell? ⟨W.heap.size, i, none⟩) ∧ (∀ i, w1.frozen? ⟨W.heap.size, i, none⟩ = (W.alloc o).frozen? ⟨W.heap.size, i, none⟩) ∧ W.heap.size < w1.heap.size := by
  obtain ⟨a, b, c, _⟩ := seen hb W.heap.size (by simp)
  exact ⟨fun i => (a i).trans (World.cell?_drew _ _), fun i => (b i).trans rfl, c⟩
theorem seen2d {W w1 : World} {o o2 : Obj} (hb : Below ((W.alloc o).alloc o2).drew.heap.size ((W.alloc o).alloc o2).drew w1) : ((∀ i, w1.cell? ⟨W.heap.size, i, none⟩ = ((W.alloc o).alloc o2).cell? ⟨W.heap.size, i, none⟩) ∧ (∀ i, w1.frozen? ⟨W.heap.size, i, none⟩ = ((W.alloc o).alloc o2).frozen? ⟨W.heap.size, i, none⟩) ∧ W.heap.size < w1.heap.size) ∧ ((∀ i, w1.cell? ⟨W.heap.size + 1, i, none⟩ = ((W.alloc o).alloc o2).cell? ⟨W.heap.size + 1, i, none⟩) ∧ (∀ i, w1.frozen? ⟨W.heap.size + 1, i, none⟩ = ((W.alloc o).alloc o2).frozen? ⟨W.heap.size + 1, i, none⟩) ∧ W.heap.size + 1 < w1.heap.size) := by
  obtain ⟨a, b, c, _⟩ := seen hb W.heap.size (by simp; omega)
  obtain ⟨a', b', c', _⟩ := seen hb (W.heap.size + 1) (by simp)
  exact ⟨⟨fun i => (a i).trans (World.cell?_drew _ _), fun i => (b i).trans rfl, c⟩, fun i => (a' i).trans (World.cell?_drew _ _), fun i => (b' i).trans rfl, c'⟩
def S11 (g4 g5 B : Nat) (spo no fr t me x y : Int) (w : World) : Prop := w.cell? ⟨g4, 0, none⟩ = some (.int .i64 2) ∧ w.cell? ⟨g4, 1, none⟩ = some (.int .i64 spo) ∧ w.cell? ⟨g4, 2, none⟩ = some (.int .i64 no) ∧ w.cell? ⟨g4, 3, none⟩ = some (.int .i64 fr) ∧ w.cell? ⟨g4, 4, none⟩ = some (.int .i64 t) ∧ w.cell? ⟨g5, 0, none⟩ = some (.int .i64 4) ∧ w.cell? ⟨g5, 1, none⟩ = some (.int .i64 me) ∧ w.cell? ⟨g5, 2, none⟩ = some (.int .i64 spo) ∧ w.cell? ⟨g5, 3, none⟩ = some (.int .i64 no) ∧ w.cell? ⟨g5, 4, none⟩ = some (.int .i64 0) ∧ w.cell? ⟨g5, 5, none⟩ = some (.int .i64 (1000000 + me)) ∧ w.cell? ⟨g5, 6, none⟩ = some (.int .i64 x) ∧ w.cell? ⟨g5, 7, none⟩ = some (.int .i64 y) ∧ w.cell? ⟨B, 0, none⟩ = some (.int .i64 x) ∧ w.cell? ⟨B, 1, none⟩ = some (.int .i64 y)
theorem S11.alloc {g4 g5 B : Nat} {spo no fr t me x y : Int} {w : World} (o : Obj) (h : S11 g4 g5 B spo no fr t me x y w) : S11 g4 g5 B spo no fr t me x y (w.alloc o) := by
  obtain ⟨h0, h1, h2, h3, h4, h5, h6, h7, h8, h9, h10, h11, h12, h13, h14⟩ := h
  exact ⟨cell_more h0, cell_more h1, cell_more h2, cell_more h3, cell_more h4, cell_more h5, cell_more h6, cell_more h7, cell_more h8, cell_more h9, cell_more h10, cell_more h11, cell_more h12, cell_more h13, cell_more h14⟩
theorem S11.drew {g4 g5 B : Nat} {spo no fr t me x y : Int} {w : World} (h : S11 g4 g5 B spo no fr t me x y w) : S11 g4 g5 B spo no fr t me x y w.drew := by
  obtain ⟨h0, h1, h2, h3, h4, h5, h6, h7, h8, h9, h10, h11, h12, h13, h14⟩ := h
  exact ⟨(World.cell?_drew _ _).trans h0, (World.cell?_drew _ _).trans h1, (World.cell?_drew _ _).trans h2, (World.cell?_drew _ _).trans h3, (World.cell?_drew _ _).trans h4, (World.cell?_drew _ _).trans h5, (World.cell?_drew _ _).trans h6, (World.cell?_drew _ _).trans h7, (World.cell?_drew _ _).trans h8, (World.cell?_drew _ _).trans h9, (World.cell?_drew _ _).trans h10, (World.cell?_drew _ _).trans h11, (World.cell?_drew _ _).trans h12, (World.cell?_drew _ _).trans h13, (World.cell?_drew _ _).trans h14⟩
theorem S11.call {g4 g5 B : Nat} {spo no fr t me x y : Int} {w : World} {w1 : World} (hb : Below w.heap.size w w1) (h : S11 g4 g5 B spo no fr t me x y w) : S11 g4 g5 B spo no fr t me x y w1 := by
  obtain ⟨h0, h1, h2, h3, h4, h5, h6, h7, h8, h9, h10, h11, h12, h13, h14⟩ := h
  exact ⟨cell_later hb h0, cell_later hb h1, cell_later hb h2, cell_later hb h3, cell_later hb h4, cell_later hb h5, cell_later hb h6, cell_later hb h7, cell_later hb h8, cell_later hb h9, cell_later hb h10, cell_later hb h11, cell_later hb h12, cell_later hb h13, cell_later hb h14⟩
theorem S11.set {g4 g5 B : Nat} {spo no fr t me x y : Int} {w : World} {b i : Nat} {v : Value} (hn : g4 ≠ b ∧ g5 ≠ b ∧ B ≠ b) (h : S11 g4 g5 B spo no fr t me x y w) : S11 g4 g5 B spo no fr t me x y (w.setCell ⟨b, i, none⟩ v) := by
  obtain ⟨n4, n5, nB⟩ := hn
  obtain ⟨h0, h1, h2, h3, h4, h5, h6, h7, h8, h9, h10, h11, h12, h13, h14⟩ := h
  exact ⟨cell_away h0 n4, cell_away h1 n4, cell_away h2 n4, cell_away h3 n4, cell_away h4 n4, cell_away h5 n5, cell_away h6 n5, cell_away h7 n5, cell_away h8 n5, cell_away h9 n5, cell_away h10 n5, cell_away h11 n5, cell_away h12 n5, cell_away h13 nB, cell_away h14 nB⟩
theorem S11.ne {g4 g5 B : Nat} {spo no fr t me x y : Int} {w : World} (h : S11 g4 g5 B spo no fr t me x y w) : g4 ≠ w.heap.size ∧ g5 ≠ w.heap.size ∧ B ≠ w.heap.size := by
  obtain ⟨h0, h1, h2, h3, h4, h5, h6, h7, h8, h9, h10, h11, h12, h13, h14⟩ := h
  exact ⟨blk_ne h0, blk_ne h5, blk_ne h13⟩
theorem S11.ne1 {g4 g5 B : Nat} {spo no fr t me x y : Int} {w : World} (h : S11 g4 g5 B spo no fr t me x y w) : g4 ≠ w.heap.size + 1 ∧ g5 ≠ w.heap.size + 1 ∧ B ≠ w.heap.size + 1 := by
  obtain ⟨h0, h1, h2, h3, h4, h5, h6, h7, h8, h9, h10, h11, h12, h13, h14⟩ := h
  exact ⟨blk_ne1 h0, blk_ne1 h5, blk_ne1 h13⟩
theorem S11.finB {g4 g5 B : Nat} {spo no fr t me x y : Int} {w w0 : World} (h : S11 g4 g5 B spo no fr t me x y w) (hb : Below w0.heap.size w0 w) : w.cell? ⟨g5, 6, none⟩ = some (.int .i64 x) ∧ w.cell? ⟨g5, 7, none⟩ = some (.int .i64 y) ∧ w.cell? ⟨B, 0, none⟩ = some (.int .i64 x) ∧ w.cell? ⟨B, 1, none⟩ = some (.int .i64 y) ∧ Below w0.heap.size w0 w := by
  obtain ⟨h0, h1, h2, h3, h4, h5, h6, h7, h8, h9, h10, h11, h12, h13, h14⟩ := h
  exact ⟨h11, h12, h13, h14, hb⟩
set_option maxHeartbeats 40000000 in
set_option maxRecDepth 100000 in
theorem law4_m (ph sp no si tr me bt spo fr ch x y b0 b1 : Int) (w : World) (h : askOk ph sp no si tr me bt spo fr) (g0 : fr ≤ 999999980) (g1 : 0 ≤ ch) (g2 : ch ≤ 1000000000) (g3 : 0 ≤ x) (g4 : x < y) (g5 : y ≤ 1000000000) (u0 : 0 ≤ b0) (u1 : b0 ≤ 255) (u2 : 0 ≤ b1) (u3 : b1 ≤ 255) : Calls Try.prog 4 #[.agg #[.int .i64 ph, .int .i64 sp, .int .i64 no, .int .i64 si, .int .i64 tr], .int .i64 me, .int .i64 bt, .int .i64 spo, .int .i64 fr, .int .i64 ch, .agg #[.int .i64 x, .int .i64 y], .agg #[.int .u8 b0, .int .u8 b1]] w fun e w' => e = .returned (.bool true) ∧ Below w.heap.size w w' := by
  have t0 : decide (999999980 < fr) = false := decide_eq_false (by omega)
  have t1 : decide (ch < 0) = false := decide_eq_false (by omega)
  have t2 : decide (1000000000 < ch) = false := decide_eq_false (by omega)
  have t3 : decide (x < 0) = false := decide_eq_false (by omega)
  have t4 : decide (y ≤ x) = false := decide_eq_false (by omega)
  have t5 : decide (1000000000 < y) = false := decide_eq_false (by omega)
  obtain ⟨_, _, _, _, ⟨r0, r1⟩⟩ := valid_si h.1.1
  obtain ⟨m0, m1⟩ := node_of h.1.2.1
  obtain ⟨m2, m3⟩ := node_of h.1.2.2.1
  have ne := h.1.2.2.2.1
  have r2 := h.2.2
  obtain ⟨p0, p1, p2, p3⟩ := h.1.2.2.2.2
  have d0 : 0 < 12 - b0 % 12 := by omega
  have d1 : 0 ≤ b0 % 12 := by omega
  have d2 : b0 % 12 < 12 := by omega
  have d3 : 0 ≤ b1 % (12 - b0 % 12) := Int.emod_nonneg _ (by omega)
  have d4 : b1 % (12 - b0 % 12) < 12 - b0 % 12 := Int.emod_lt_of_pos _ d0
  have d5 : (12 - b0 % 12 == 0) = false := beq_eq_false_iff_ne.2 (by omega)
  have L1 : ¬ lateP 1 spo (256 * bt + tr + 1) fr (tr + 1) (fr + b0 % 12) := by rintro ⟨_, _, h⟩; omega
  have L2 : ¬ lateP 2 spo (256 * bt + tr + 1) fr (tr + 1) (fr + (b0 % 12 + b1 % (12 - b0 % 12))) := by rintro ⟨_, _, h⟩; omega
  have L3 : ¬ lateP 3 spo (256 * bt + tr + 1) fr (tr + 1) (fr + 100) := by rintro ⟨_, h, _⟩; omega
  have V1 : validB 1 spo (256 * bt + tr + 1) fr (tr + 1) = true := valid_mk (by omega)
  have V2 : validB 2 spo (256 * bt + tr + 1) fr (tr + 1) = true := valid_mk (by omega)
  have F1 : formedB 2 me spo (256 * bt + tr + 1) ch = true := formed_mk (by omega)
  have F2 : formedB 3 me spo (256 * bt + tr + 1) ch = true := formed_mk (by omega)
  have F3 : formedB 4 me spo (256 * bt + tr + 1) 0 = true := formed_mk (by omega)
  clear r2 ne
  go_enter Try.func4, Try.ntmps4
  go_wp2_with (fail)
  refine (head_true _).mono ?_
  rintro e w1 ⟨rfl, hb1⟩
  obtain ⟨c1_0, f1_0, z1_0, za1_0, zb1_0, zc1_0⟩ := seen hb1 (w.heap.size) (by first | omega | (simp; done) | (simp; omega))
  obtain ⟨c1_1, f1_1, z1_1, za1_1, zb1_1, zc1_1⟩ := seen hb1 (w.heap.size + 1) (by first | omega | (simp; done) | (simp; omega))
  obtain ⟨c1_2, f1_2, z1_2, za1_2, zb1_2, zc1_2⟩ := seen hb1 (w.heap.size + 1 + 1) (by first | omega | (simp; done) | (simp; omega))
  go_wp2_with (fail)
  refine (ask_ok _ _ _ _ _ _ _ _ _ _ h).mono ?_
  rintro e w2 ⟨rfl, hb2⟩
  obtain ⟨c2_0, f2_0, z2_0, za2_0, zb2_0, zc2_0⟩ := seen hb2 (w.heap.size) (by first | omega | (simp; done) | (simp; omega))
  obtain ⟨c2_1, f2_1, z2_1, za2_1, zb2_1, zc2_1⟩ := seen hb2 (w.heap.size + 1) (by first | omega | (simp; done) | (simp; omega))
  obtain ⟨c2_2, f2_2, z2_2, za2_2, zb2_2, zc2_2⟩ := seen hb2 (w.heap.size + 1 + 1) (by first | omega | (simp; done) | (simp; omega))
  go_wp2_with (fail)
  refine (late_no _ _ _ _ _ _ _ L1).mono ?_
  rintro e w3 ⟨rfl, hb3⟩
  obtain ⟨c3_0, f3_0, z3_0, za3_0, zb3_0, zc3_0⟩ := seen hb3 (w.heap.size + 1) (by first | omega | (simp; done) | (simp; omega))
  obtain ⟨c3_1, f3_1, z3_1, za3_1, zb3_1, zc3_1⟩ := seen hb3 (w.heap.size + 1 + 1) (by first | omega | (simp; done) | (simp; omega))
  obtain ⟨c3_2, f3_2, z3_2, za3_2, zb3_2, zc3_2⟩ := seen hb3 (w2.heap.size) (by first | omega | (simp; done) | (simp; omega))
  obtain ⟨c3_3, f3_3, z3_3, za3_3, zb3_3, zc3_3⟩ := seen hb3 (w2.heap.size + 1) (by first | omega | (simp; done) | (simp; omega))
  go_wp2_with (fail)
  refine (hear_c1 _ _ _ _ _ _ _ _ _ _ _ V1 F1 (by omega) (by omega)).mono ?_
  rintro e w4 ⟨rfl, hb4⟩
  obtain ⟨c4_0, f4_0, z4_0, za4_0, zb4_0, zc4_0⟩ := seen hb4 (w.heap.size + 1) (by first | omega | (simp; done) | (simp; omega))
  go_upto_region 10 with fail
  go_cut [23, 26, 27] (fun s23 s26 s27 wx => ∃ g4 g5 : Nat, s23 = .pointer (some ⟨g4, 0, none⟩) ∧ s26 = .pointer (some ⟨g5, 0, none⟩) ∧ s27 = .int .i64 0 ∧ wx.cell? ⟨g5, 0, none⟩ = some (.int .i64 4) ∧ wx.cell? ⟨g5, 1, none⟩ = some (.int .i64 me) ∧ wx.cell? ⟨g5, 2, none⟩ = some (.int .i64 spo) ∧ wx.cell? ⟨g5, 3, none⟩ = some (.int .i64 (256 * bt + tr + 1)) ∧ wx.cell? ⟨g5, 4, none⟩ = some (.int .i64 0) ∧ wx.cell? ⟨g5, 5, none⟩ = some (.int .i64 (1000000 + me)) ∧ wx.cell? ⟨g5, 6, none⟩ = some (.int .i64 x) ∧ wx.cell? ⟨g5, 7, none⟩ = some (.int .i64 y) ∧ wx.cell? ⟨g4, 0, none⟩ = some (.int .i64 2) ∧ wx.cell? ⟨g4, 1, none⟩ = some (.int .i64 spo) ∧ wx.cell? ⟨g4, 2, none⟩ = some (.int .i64 (256 * bt + tr + 1)) ∧ wx.cell? ⟨g4, 3, none⟩ = some (.int .i64 fr) ∧ wx.cell? ⟨g4, 4, none⟩ = some (.int .i64 (tr + 1)) ∧ wx.cell? ⟨w.heap.size + 1, 0, none⟩ = some (.int .i64 x) ∧ wx.cell? ⟨w.heap.size + 1, 1, none⟩ = some (.int .i64 y) ∧ Below w.heap.size w wx)
  case first =>
    go_wp2_with (fail)
    refine (judge_o _ _ _ _ _ _ _ _ _ _ _ F2 g3 g4 g5 rfl rfl).mono ?_
    rintro e w5 ⟨rfl, hb5⟩
    obtain ⟨c5_0, f5_0, z5_0, za5_0, zb5_0, zc5_0⟩ := seen hb5 (w.heap.size + 1) (by first | omega | (simp; done) | (simp; omega))
    obtain ⟨c5_1, f5_1, z5_1, za5_1, zb5_1, zc5_1⟩ := seen hb5 (w4.heap.size) (by first | omega | (simp; done) | (simp; omega))
    obtain ⟨c5_2, f5_2, z5_2, za5_2, zb5_2, zc5_2⟩ := seen hb5 (w4.heap.size + 1) (by first | omega | (simp; done) | (simp; omega))
    go_wp2_with (fail)
    go_meet
    refine ⟨_, _, rfl, rfl, rfl, ?_, ?_, ?_, ?_, ?_, ?_, ?_, ?_, ?_, ?_, ?_, ?_, ?_, ?_, ?_, ?_⟩
    any_goals (first | (simp [go_sem, *]; done))
    (repeat (first | (with_reducible exact Below.refl _ _) | (with_reducible assumption) | (with_reducible refine bs_drewN ?_ _) | (with_reducible refine bs_drew ?_) | (with_reducible refine bs_alloc ?_ _) | (with_reducible refine bs_set ?_ _ (by first | (simp; done) | (simp; omega))) | (with_reducible refine bs_step ?_ (by assumption))))
  case rest =>
    obtain ⟨g4, g5, rfl, rfl, rfl, e0, e1, e2, e3, e4, e5, e6, e7, j0, j1, j2, j3, j4, x0, x1, hbw⟩ := hcut
    try clear c1_0 f1_0 z1_0 za1_0 zb1_0 zc1_0
    try clear c1_1 f1_1 z1_1 za1_1 zb1_1 zc1_1
    try clear c1_2 f1_2 z1_2 za1_2 zb1_2 zc1_2
    try clear c1_3 f1_3 z1_3 za1_3 zb1_3 zc1_3
    try clear c2_0 f2_0 z2_0 za2_0 zb2_0 zc2_0
    try clear c2_1 f2_1 z2_1 za2_1 zb2_1 zc2_1
    try clear c2_2 f2_2 z2_2 za2_2 zb2_2 zc2_2
    try clear c2_3 f2_3 z2_3 za2_3 zb2_3 zc2_3
    try clear c3_0 f3_0 z3_0 za3_0 zb3_0 zc3_0
    try clear c3_1 f3_1 z3_1 za3_1 zb3_1 zc3_1
    try clear c3_2 f3_2 z3_2 za3_2 zb3_2 zc3_2
    try clear c3_3 f3_3 z3_3 za3_3 zb3_3 zc3_3
    try clear c4_0 f4_0 z4_0 za4_0 zb4_0 zc4_0
    try clear c4_1 f4_1 z4_1 za4_1 zb4_1 zc4_1
    try clear c4_2 f4_2 z4_2 za4_2 zb4_2 zc4_2
    try clear c4_3 f4_3 z4_3 za4_3 zb4_3 zc4_3
    clear hb1 hb2 hb3 hb4
    clear t0 t1 t2 t3 t4 t5 L1 V1 F1
    have hwr1 : IntKind.i64.wrap (fr + (b0 % 12 + b1 % (12 - b0 % 12))) = fr + (b0 % 12 + b1 % (12 - b0 % 12)) := IntWalk.i64_in _ (by omega)
    have q0 : S11 g4 g5 (w.heap.size + 1) spo (256 * bt + tr + 1) fr (tr + 1) me x y wc := ⟨j0, j1, j2, j3, j4, e0, e1, e2, e3, e4, e5, e6, e7, x0, x1⟩
    have n0 := q0.ne
    have m0' := q0.ne1
    go_upto_region 11 with fail
    go_cut [28, 30] (fun s28 s30 wx => ∃ g : Nat, s28 = .pointer (some ⟨g, 0, none⟩) ∧ s30 = .bool true ∧ wx.cell? ⟨g, 0, none⟩ = some (.int .i64 3) ∧ wx.cell? ⟨g, 1, none⟩ = some (.int .i64 spo) ∧ wx.cell? ⟨g, 2, none⟩ = some (.int .i64 (256 * bt + tr + 1)) ∧ wx.cell? ⟨g, 3, none⟩ = some (.int .i64 fr) ∧ wx.cell? ⟨g, 4, none⟩ = some (.int .i64 (tr + 1)) ∧ wx.cell? ⟨g5, 6, none⟩ = some (.int .i64 x) ∧ wx.cell? ⟨g5, 7, none⟩ = some (.int .i64 y) ∧ wx.cell? ⟨w.heap.size + 1, 0, none⟩ = some (.int .i64 x) ∧ wx.cell? ⟨w.heap.size + 1, 1, none⟩ = some (.int .i64 y) ∧ Below w.heap.size w wx)
    case first =>
      go_region_held3 (fun w' => w'.cell? ⟨g4, 0, none⟩ = some (.int .i64 2) ∧ w'.cell? ⟨g4, 1, none⟩ = some (.int .i64 spo) ∧ w'.cell? ⟨g4, 2, none⟩ = some (.int .i64 (256 * bt + tr + 1)) ∧ w'.cell? ⟨g4, 3, none⟩ = some (.int .i64 fr) ∧ w'.cell? ⟨g4, 4, none⟩ = some (.int .i64 (tr + 1)) ∧ w'.cell? ⟨g5, 0, none⟩ = some (.int .i64 4) ∧ w'.cell? ⟨g5, 1, none⟩ = some (.int .i64 me) ∧ w'.cell? ⟨g5, 2, none⟩ = some (.int .i64 spo) ∧ w'.cell? ⟨g5, 3, none⟩ = some (.int .i64 (256 * bt + tr + 1)) ∧ w'.cell? ⟨g5, 4, none⟩ = some (.int .i64 0) ∧ w'.cell? ⟨g5, 5, none⟩ = some (.int .i64 (1000000 + me)) ∧ w'.cell? ⟨g5, 6, none⟩ = some (.int .i64 x) ∧ w'.cell? ⟨g5, 7, none⟩ = some (.int .i64 y) ∧ w'.cell? ⟨w.heap.size + 1, 0, none⟩ = some (.int .i64 x) ∧ w'.cell? ⟨w.heap.size + 1, 1, none⟩ = some (.int .i64 y)) ((show S11 g4 g5 (w.heap.size + 1) spo (256 * bt + tr + 1) fr (tr + 1) me x y _; repeat' (first | (with_reducible assumption) | (with_reducible refine S11.alloc _ ?_) | (with_reducible refine S11.drew ?_) | (with_reducible refine S11.set ?_ ?_) | assumption))) (first | (go_at_call 17; refine (late_no _ _ _ _ _ _ _ L2).mono ?_; rintro e w6 ⟨rfl, hb⟩; have hb6 := hb; (try (first | ((with_reducible have hx_ := seen2d hb); obtain ⟨⟨sc60, sf60, sz60⟩, ⟨sc61, sf61, sz61⟩⟩ := hx_) | ((with_reducible have hx_ := seen1d hb); obtain ⟨sc60, sf60, sz60⟩ := hx_))); have q6 : S11 g4 g5 (w.heap.size + 1) spo (256 * bt + tr + 1) fr (tr + 1) me x y _ := S11.call hb (by assumption); have n6 := q6.ne; have m6 := q6.ne1) | (go_at_call 13; refine (hear_wy _ _ _ _ _ _ _ _ _ _ V2 F3 (by omega) (by omega)).mono ?_; rintro e w7 ⟨rfl, hb⟩; have hb7 := hb; (try ((with_reducible have hx_ := seen2 hb); obtain ⟨⟨sc72, sf72, sz72⟩, ⟨sc73, sf73, sz73⟩⟩ := hx_)); (try ((with_reducible have hx_ := seen1 hb); obtain ⟨sc72, sf72, sz72⟩ := hx_)); (try (first | ((with_reducible have hx_ := seen hb _ sz60); obtain ⟨sc70, sf70, sz70, _, _, _⟩ := hx_) | ((with_reducible have hx_ := seen hb _ (lt_alloc sz60)); obtain ⟨sc70, sf70, sz70, _, _, _⟩ := hx_))); (try (first | ((with_reducible have hx_ := seen hb _ sz61); obtain ⟨sc71, sf71, sz71, _, _, _⟩ := hx_) | ((with_reducible have hx_ := seen hb _ (lt_alloc sz61)); obtain ⟨sc71, sf71, sz71, _, _, _⟩ := hx_))); have q7 : S11 g4 g5 (w.heap.size + 1) spo (256 * bt + tr + 1) fr (tr + 1) me x y _ := S11.call hb (by assumption); have n7 := q7.ne; have m7 := q7.ne1))
      all_goals
        go_wp2_with (fail)
        go_meet
        have z1 := hbw.size
        have z2 := hb6.size
        have z3 := hb7.size
        simp at z2 z3
        refine ⟨_, rfl, rfl, ?_, ?_, ?_, ?_, ?_, S11.finB (g4 := g4) (spo := spo) (no := 256 * bt + tr + 1) (fr := fr) (t := tr + 1) (me := me) ?_ ?_⟩
        rotate_right
        · repeat (first | (with_reducible exact hbw) | (with_reducible refine bs_drewN ?_ _) | (with_reducible refine bs_drew ?_) | (with_reducible refine bs_alloc ?_ _) | (with_reducible refine bs_set ?_ _ (by first | (simp; done) | (simp; omega) | omega)) | (with_reducible refine bs_step ?_ hb7) | (with_reducible refine bs_step ?_ hb6))
        rotate_right
        · repeat' (first | (with_reducible exact q7) | (with_reducible refine S11.alloc _ ?_) | (with_reducible refine S11.drew ?_) | (with_reducible refine S11.set ?_ ?_) | (with_reducible assumption))
        all_goals (simp [go_sem, *]; done)
    case rest =>
      obtain ⟨g, rfl, rfl, k0, k1, k2, k3, k4, y0, y1, y2, y3, hbz⟩ := hcut
      clear q0 n0 m0' e0 e1 e2 e3 e4 e5 e6 e7 j0 j1 j2 j3 j4 x0 x1 hbw
      have hwr2 : IntKind.i64.wrap (fr + 100) = fr + 100 := IntWalk.i64_in _ (by omega)
      go_wp2_with (fail)
      go_region_held3 (fun w' => w'.cell? ⟨g, 0, none⟩ = some (.int .i64 3) ∧ w'.cell? ⟨g, 1, none⟩ = some (.int .i64 spo) ∧ w'.cell? ⟨g, 2, none⟩ = some (.int .i64 (256 * bt + tr + 1)) ∧ w'.cell? ⟨g, 3, none⟩ = some (.int .i64 fr) ∧ w'.cell? ⟨g, 4, none⟩ = some (.int .i64 (tr + 1)) ∧ w'.cell? ⟨g5, 6, none⟩ = some (.int .i64 x) ∧ w'.cell? ⟨g5, 7, none⟩ = some (.int .i64 y) ∧ w'.cell? ⟨w.heap.size + 1, 0, none⟩ = some (.int .i64 x) ∧ w'.cell? ⟨w.heap.size + 1, 1, none⟩ = some (.int .i64 y)) (refine ⟨?_, ?_, ?_, ?_, ?_, ?_, ?_, ?_, ?_⟩ <;> first | (with_reducible assumption) | ((with_reducible refine (World.cell?_drew _ _).trans ?_); with_reducible assumption) | ((with_reducible refine cell_later hb ?_); with_reducible assumption) | ((with_reducible refine cell_later hb ((World.cell?_drew _ _).trans ?_)); with_reducible assumption)) (first | (go_at_call 17; refine (late_no _ _ _ _ _ _ _ L3).mono ?_; rintro e w8 ⟨rfl, hb⟩))
      all_goals
        go_wp2_with (fail)
        go_ret
        refine ⟨rfl, ?_⟩
        repeat (first | (with_reducible exact hbz) | (with_reducible refine bs_drewN ?_ _) | (with_reducible refine bs_drew ?_) | (with_reducible refine bs_alloc ?_ _) | (with_reducible refine bs_step ?_ (by assumption)))
theorem law4_all (ph sp no si tr me bt spo fr ch x y b0 b1 : Int) (w : World) (u0 : 0 ≤ b0) (u1 : b0 ≤ 255) (u2 : 0 ≤ b1) (u3 : b1 ≤ 255) : Calls Try.prog 4 #[.agg #[.int .i64 ph, .int .i64 sp, .int .i64 no, .int .i64 si, .int .i64 tr], .int .i64 me, .int .i64 bt, .int .i64 spo, .int .i64 fr, .int .i64 ch, .agg #[.int .i64 x, .int .i64 y], .agg #[.int .u8 b0, .int .u8 b1]] w fun e w' => e = .returned (.bool true) ∧ Below w.heap.size w w' := by
  by_cases h : askOk ph sp no si tr me bt spo fr
  rotate_left
  · exact law4_n _ _ _ _ _ _ _ _ _ _ _ _ _ _ w h
  by_cases g0 : fr ≤ 999999980
  rotate_left
  · exact law4_g0 _ _ _ _ _ _ _ _ _ _ _ _ _ _ w h  (by omega)
  by_cases g1 : 0 ≤ ch
  rotate_left
  · exact law4_g1 _ _ _ _ _ _ _ _ _ _ _ _ _ _ w h g0 (by omega)
  by_cases g2 : ch ≤ 1000000000
  rotate_left
  · exact law4_g2 _ _ _ _ _ _ _ _ _ _ _ _ _ _ w h g0 g1 (by omega)
  by_cases g3 : 0 ≤ x
  rotate_left
  · exact law4_g3 _ _ _ _ _ _ _ _ _ _ _ _ _ _ w h g0 g1 g2 (by omega)
  by_cases g4 : x < y
  rotate_left
  · exact law4_g4 _ _ _ _ _ _ _ _ _ _ _ _ _ _ w h g0 g1 g2 g3 (by omega)
  by_cases g5 : y ≤ 1000000000
  rotate_left
  · exact law4_g5 _ _ _ _ _ _ _ _ _ _ _ _ _ _ w h g0 g1 g2 g3 g4 (by omega)
  exact law4_m _ _ _ _ _ _ _ _ _ _ _ _ _ _ w h g0 g1 g2 g3 g4 g5 u0 u1 u2 u3
end Go.Proofs.Yteiiglefbbhinaa
