/-
  slotmeshtop.TopKeysInStep: keys are replaced in step (the law answers true).
-/
import Derived.Test.YtncgeclkgmfppaaDoorLearn
import Derived.Test.YtncgeclkgmfppaaDoorSealR
import Derived.Test.YtncgeclkgmfppaaDoorStrangerT
import Derived.Deep.RegionWith
import Derived.IntWalk
import Derived.Outline
namespace Go.Proofs.YtncgeclkgmfppaaDoor.H
open Go.RowKit Go.Proofs.YtncgeclkgmfppaaDoorW.PrintWords Go.Proofs.YtncgeclkgmfppaaDoorW.PrintLast Go.Proofs.YtncgeclkgmfppaaDoorW.PrintMore
set_option linter.unusedVariables false
set_option linter.unusedSimpArgs false
set_option maxRecDepth 100000
def LP (p q : Nat) (e y z k : Int) (w : World) : Prop := w.cell? ⟨p, 0, none⟩ = some ((.int .i64 e)) ∧ w.cell? ⟨p, 1, none⟩ = some ((.int .i64 y)) ∧ w.cell? ⟨q, 0, none⟩ = some ((.int .i64 1)) ∧ w.cell? ⟨q, 1, none⟩ = some ((.int .i64 0)) ∧ w.cell? ⟨q, 2, none⟩ = some ((.int .i64 (-1))) ∧ w.cell? ⟨q, 3, none⟩ = some ((.int .i64 z)) ∧ w.cell? ⟨q, 4, none⟩ = some ((.int .i64 k)) ∧ w.cell? ⟨q, 5, none⟩ = some ((.slice none 0 0))
theorem LP.alloc {p q : Nat} {e y z k : Int} {w : World} (o : Obj) (h : LP p q e y z k w) : LP p q e y z k (w.alloc o) := by
  obtain ⟨h0, h1, h2, h3, h4, h5, h6, h7⟩ := h
  exact ⟨cell_more h0, cell_more h1, cell_more h2, cell_more h3, cell_more h4, cell_more h5, cell_more h6, cell_more h7⟩
theorem LP.drew {p q : Nat} {e y z k : Int} {w : World} (h : LP p q e y z k w) : LP p q e y z k w.drew := by
  obtain ⟨h0, h1, h2, h3, h4, h5, h6, h7⟩ := h
  exact ⟨(World.cell?_drew _ _).trans h0, (World.cell?_drew _ _).trans h1, (World.cell?_drew _ _).trans h2, (World.cell?_drew _ _).trans h3, (World.cell?_drew _ _).trans h4, (World.cell?_drew _ _).trans h5, (World.cell?_drew _ _).trans h6, (World.cell?_drew _ _).trans h7⟩
theorem LP.call {p q : Nat} {e y z k : Int} {w w1 : World} (hb : Below w.heap.size w w1) (h : LP p q e y z k w) : LP p q e y z k w1 := by
  obtain ⟨h0, h1, h2, h3, h4, h5, h6, h7⟩ := h
  exact ⟨cell_later hb h0, cell_later hb h1, cell_later hb h2, cell_later hb h3, cell_later hb h4, cell_later hb h5, cell_later hb h6, cell_later hb h7⟩
theorem LP.set {p q : Nat} {e y z k : Int} {w : World} {bb i : Nat} {v : Value} (hn : p ≠ bb ∧ q ≠ bb) (h : LP p q e y z k w) : LP p q e y z k (w.setCell ⟨bb, i, none⟩ v) := by
  obtain ⟨n0, n1⟩ := hn
  obtain ⟨h0, h1, h2, h3, h4, h5, h6, h7⟩ := h
  exact ⟨cell_off h0 n0, cell_off h1 n0, cell_off h2 n1, cell_off h3 n1, cell_off h4 n1, cell_off h5 n1, cell_off h6 n1, cell_off h7 n1⟩
theorem LP.ne {p q : Nat} {e y z k : Int} {w : World} (h : LP p q e y z k w) : p ≠ w.heap.size ∧ q ≠ w.heap.size := by
  obtain ⟨h0, h1, h2, h3, h4, h5, h6, h7⟩ := h
  exact ⟨Nat.ne_of_lt (World.block_lt_of_cell? _ _ h0), Nat.ne_of_lt (World.block_lt_of_cell? _ _ h2)⟩
theorem LP.ne1 {p q : Nat} {e y z k : Int} {w : World} (h : LP p q e y z k w) : p ≠ w.heap.size + 1 ∧ q ≠ w.heap.size + 1 := by
  obtain ⟨h0, h1, h2, h3, h4, h5, h6, h7⟩ := h
  have a0 := World.block_lt_of_cell? _ _ h0
  dsimp only at a0
  have a1 := World.block_lt_of_cell? _ _ h2
  dsimp only at a1
  exact ⟨by omega, by omega⟩
theorem LP.mk {p q : Nat} {e y z k : Int} {w : World} (h0 : w.cell? ⟨p, 0, none⟩ = some ((.int .i64 e))) (h1 : w.cell? ⟨p, 1, none⟩ = some ((.int .i64 y))) (h2 : w.cell? ⟨q, 0, none⟩ = some ((.int .i64 1))) (h3 : w.cell? ⟨q, 1, none⟩ = some ((.int .i64 0))) (h4 : w.cell? ⟨q, 2, none⟩ = some ((.int .i64 (-1)))) (h5 : w.cell? ⟨q, 3, none⟩ = some ((.int .i64 z))) (h6 : w.cell? ⟨q, 4, none⟩ = some ((.int .i64 k))) (h7 : w.cell? ⟨q, 5, none⟩ = some ((.slice none 0 0))) : LP p q e y z k w := ⟨h0, h1, h2, h3, h4, h5, h6, h7⟩
theorem LP.cells {p q : Nat} {e y z k : Int} {w : World} (h : LP p q e y z k w) : w.cell? ⟨p, 0, none⟩ = some ((.int .i64 e)) ∧ w.cell? ⟨p, 1, none⟩ = some ((.int .i64 y)) ∧ w.cell? ⟨q, 0, none⟩ = some ((.int .i64 1)) ∧ w.cell? ⟨q, 1, none⟩ = some ((.int .i64 0)) ∧ w.cell? ⟨q, 2, none⟩ = some ((.int .i64 (-1))) ∧ w.cell? ⟨q, 3, none⟩ = some ((.int .i64 z)) ∧ w.cell? ⟨q, 4, none⟩ = some ((.int .i64 k)) ∧ w.cell? ⟨q, 5, none⟩ = some ((.slice none 0 0)) := h
def SF (f : Nat) (z k : Int) (w : World) : Prop := w.cell? ⟨f, 0, none⟩ = some ((.int .i64 1)) ∧ w.cell? ⟨f, 1, none⟩ = some ((.int .i64 0)) ∧ w.cell? ⟨f, 2, none⟩ = some ((.int .i64 (-1))) ∧ w.cell? ⟨f, 3, none⟩ = some ((.int .i64 z)) ∧ w.cell? ⟨f, 4, none⟩ = some ((.int .i64 k)) ∧ w.cell? ⟨f, 5, none⟩ = some ((.slice none 0 0))
theorem SF.alloc {f : Nat} {z k : Int} {w : World} (o : Obj) (h : SF f z k w) : SF f z k (w.alloc o) := by
  obtain ⟨h0, h1, h2, h3, h4, h5⟩ := h
  exact ⟨cell_more h0, cell_more h1, cell_more h2, cell_more h3, cell_more h4, cell_more h5⟩
theorem SF.drew {f : Nat} {z k : Int} {w : World} (h : SF f z k w) : SF f z k w.drew := by
  obtain ⟨h0, h1, h2, h3, h4, h5⟩ := h
  exact ⟨(World.cell?_drew _ _).trans h0, (World.cell?_drew _ _).trans h1, (World.cell?_drew _ _).trans h2, (World.cell?_drew _ _).trans h3, (World.cell?_drew _ _).trans h4, (World.cell?_drew _ _).trans h5⟩
theorem SF.call {f : Nat} {z k : Int} {w w1 : World} (hb : Below w.heap.size w w1) (h : SF f z k w) : SF f z k w1 := by
  obtain ⟨h0, h1, h2, h3, h4, h5⟩ := h
  exact ⟨cell_later hb h0, cell_later hb h1, cell_later hb h2, cell_later hb h3, cell_later hb h4, cell_later hb h5⟩
theorem SF.set {f : Nat} {z k : Int} {w : World} {bb i : Nat} {v : Value} (hn : f ≠ bb ∧ True) (h : SF f z k w) : SF f z k (w.setCell ⟨bb, i, none⟩ v) := by
  obtain ⟨n0, _⟩ := hn
  obtain ⟨h0, h1, h2, h3, h4, h5⟩ := h
  exact ⟨cell_off h0 n0, cell_off h1 n0, cell_off h2 n0, cell_off h3 n0, cell_off h4 n0, cell_off h5 n0⟩
theorem SF.ne {f : Nat} {z k : Int} {w : World} (h : SF f z k w) : f ≠ w.heap.size ∧ True := by
  obtain ⟨h0, h1, h2, h3, h4, h5⟩ := h
  exact ⟨Nat.ne_of_lt (World.block_lt_of_cell? _ _ h0), trivial⟩
theorem SF.ne1 {f : Nat} {z k : Int} {w : World} (h : SF f z k w) : f ≠ w.heap.size + 1 ∧ True := by
  obtain ⟨h0, h1, h2, h3, h4, h5⟩ := h
  have a0 := World.block_lt_of_cell? _ _ h0
  dsimp only at a0
  exact ⟨by omega, trivial⟩
theorem SF.mk {f : Nat} {z k : Int} {w : World} (h0 : w.cell? ⟨f, 0, none⟩ = some ((.int .i64 1))) (h1 : w.cell? ⟨f, 1, none⟩ = some ((.int .i64 0))) (h2 : w.cell? ⟨f, 2, none⟩ = some ((.int .i64 (-1)))) (h3 : w.cell? ⟨f, 3, none⟩ = some ((.int .i64 z))) (h4 : w.cell? ⟨f, 4, none⟩ = some ((.int .i64 k))) (h5 : w.cell? ⟨f, 5, none⟩ = some ((.slice none 0 0))) : SF f z k w := ⟨h0, h1, h2, h3, h4, h5⟩
theorem SF.cells {f : Nat} {z k : Int} {w : World} (h : SF f z k w) : w.cell? ⟨f, 0, none⟩ = some ((.int .i64 1)) ∧ w.cell? ⟨f, 1, none⟩ = some ((.int .i64 0)) ∧ w.cell? ⟨f, 2, none⟩ = some ((.int .i64 (-1))) ∧ w.cell? ⟨f, 3, none⟩ = some ((.int .i64 z)) ∧ w.cell? ⟨f, 4, none⟩ = some ((.int .i64 k)) ∧ w.cell? ⟨f, 5, none⟩ = some ((.slice none 0 0)) := h
def LD (p q t u : Nat) (e y z k z2 k2 : Int) (w : World) : Prop := w.cell? ⟨p, 0, none⟩ = some ((.int .i64 e)) ∧ w.cell? ⟨p, 1, none⟩ = some ((.int .i64 y)) ∧ w.cell? ⟨q, 0, none⟩ = some ((.int .i64 1)) ∧ w.cell? ⟨q, 1, none⟩ = some ((.int .i64 0)) ∧ w.cell? ⟨q, 2, none⟩ = some ((.int .i64 (-1))) ∧ w.cell? ⟨q, 3, none⟩ = some ((.int .i64 z)) ∧ w.cell? ⟨q, 4, none⟩ = some ((.int .i64 k)) ∧ w.cell? ⟨q, 5, none⟩ = some ((.slice none 0 0)) ∧ w.cell? ⟨t, 0, none⟩ = some ((.int .i64 1)) ∧ w.cell? ⟨t, 1, none⟩ = some ((.int .i64 0)) ∧ w.cell? ⟨t, 2, none⟩ = some ((.int .i64 (-1))) ∧ w.cell? ⟨t, 3, none⟩ = some ((.int .i64 z2)) ∧ w.cell? ⟨t, 4, none⟩ = some ((.int .i64 k2)) ∧ w.cell? ⟨t, 5, none⟩ = some ((.slice none 0 0)) ∧ w.cell? ⟨u, 0, none⟩ = some ((.int .i64 1)) ∧ w.cell? ⟨u, 1, none⟩ = some ((.int .i64 0)) ∧ w.cell? ⟨u, 2, none⟩ = some ((.int .i64 (-1))) ∧ w.cell? ⟨u, 3, none⟩ = some ((.int .i64 z2)) ∧ w.cell? ⟨u, 4, none⟩ = some ((.int .i64 k2)) ∧ w.cell? ⟨u, 5, none⟩ = some ((.slice none 0 0))
theorem LD.alloc {p q t u : Nat} {e y z k z2 k2 : Int} {w : World} (o : Obj) (h : LD p q t u e y z k z2 k2 w) : LD p q t u e y z k z2 k2 (w.alloc o) := by
  obtain ⟨h0, h1, h2, h3, h4, h5, h6, h7, h8, h9, h10, h11, h12, h13, h14, h15, h16, h17, h18, h19⟩ := h
  exact ⟨cell_more h0, cell_more h1, cell_more h2, cell_more h3, cell_more h4, cell_more h5, cell_more h6, cell_more h7, cell_more h8, cell_more h9, cell_more h10, cell_more h11, cell_more h12, cell_more h13, cell_more h14, cell_more h15, cell_more h16, cell_more h17, cell_more h18, cell_more h19⟩
theorem LD.drew {p q t u : Nat} {e y z k z2 k2 : Int} {w : World} (h : LD p q t u e y z k z2 k2 w) : LD p q t u e y z k z2 k2 w.drew := by
  obtain ⟨h0, h1, h2, h3, h4, h5, h6, h7, h8, h9, h10, h11, h12, h13, h14, h15, h16, h17, h18, h19⟩ := h
  exact ⟨(World.cell?_drew _ _).trans h0, (World.cell?_drew _ _).trans h1, (World.cell?_drew _ _).trans h2, (World.cell?_drew _ _).trans h3, (World.cell?_drew _ _).trans h4, (World.cell?_drew _ _).trans h5, (World.cell?_drew _ _).trans h6, (World.cell?_drew _ _).trans h7, (World.cell?_drew _ _).trans h8, (World.cell?_drew _ _).trans h9, (World.cell?_drew _ _).trans h10, (World.cell?_drew _ _).trans h11, (World.cell?_drew _ _).trans h12, (World.cell?_drew _ _).trans h13, (World.cell?_drew _ _).trans h14, (World.cell?_drew _ _).trans h15, (World.cell?_drew _ _).trans h16, (World.cell?_drew _ _).trans h17, (World.cell?_drew _ _).trans h18, (World.cell?_drew _ _).trans h19⟩
theorem LD.call {p q t u : Nat} {e y z k z2 k2 : Int} {w w1 : World} (hb : Below w.heap.size w w1) (h : LD p q t u e y z k z2 k2 w) : LD p q t u e y z k z2 k2 w1 := by
  obtain ⟨h0, h1, h2, h3, h4, h5, h6, h7, h8, h9, h10, h11, h12, h13, h14, h15, h16, h17, h18, h19⟩ := h
  exact ⟨cell_later hb h0, cell_later hb h1, cell_later hb h2, cell_later hb h3, cell_later hb h4, cell_later hb h5, cell_later hb h6, cell_later hb h7, cell_later hb h8, cell_later hb h9, cell_later hb h10, cell_later hb h11, cell_later hb h12, cell_later hb h13, cell_later hb h14, cell_later hb h15, cell_later hb h16, cell_later hb h17, cell_later hb h18, cell_later hb h19⟩
theorem LD.set {p q t u : Nat} {e y z k z2 k2 : Int} {w : World} {bb i : Nat} {v : Value} (hn : p ≠ bb ∧ q ≠ bb ∧ t ≠ bb ∧ u ≠ bb) (h : LD p q t u e y z k z2 k2 w) : LD p q t u e y z k z2 k2 (w.setCell ⟨bb, i, none⟩ v) := by
  obtain ⟨n0, n1, n2, n3⟩ := hn
  obtain ⟨h0, h1, h2, h3, h4, h5, h6, h7, h8, h9, h10, h11, h12, h13, h14, h15, h16, h17, h18, h19⟩ := h
  exact ⟨cell_off h0 n0, cell_off h1 n0, cell_off h2 n1, cell_off h3 n1, cell_off h4 n1, cell_off h5 n1, cell_off h6 n1, cell_off h7 n1, cell_off h8 n2, cell_off h9 n2, cell_off h10 n2, cell_off h11 n2, cell_off h12 n2, cell_off h13 n2, cell_off h14 n3, cell_off h15 n3, cell_off h16 n3, cell_off h17 n3, cell_off h18 n3, cell_off h19 n3⟩
theorem LD.ne {p q t u : Nat} {e y z k z2 k2 : Int} {w : World} (h : LD p q t u e y z k z2 k2 w) : p ≠ w.heap.size ∧ q ≠ w.heap.size ∧ t ≠ w.heap.size ∧ u ≠ w.heap.size := by
  obtain ⟨h0, h1, h2, h3, h4, h5, h6, h7, h8, h9, h10, h11, h12, h13, h14, h15, h16, h17, h18, h19⟩ := h
  exact ⟨Nat.ne_of_lt (World.block_lt_of_cell? _ _ h0), Nat.ne_of_lt (World.block_lt_of_cell? _ _ h2), Nat.ne_of_lt (World.block_lt_of_cell? _ _ h8), Nat.ne_of_lt (World.block_lt_of_cell? _ _ h14)⟩
theorem LD.ne1 {p q t u : Nat} {e y z k z2 k2 : Int} {w : World} (h : LD p q t u e y z k z2 k2 w) : p ≠ w.heap.size + 1 ∧ q ≠ w.heap.size + 1 ∧ t ≠ w.heap.size + 1 ∧ u ≠ w.heap.size + 1 := by
  obtain ⟨h0, h1, h2, h3, h4, h5, h6, h7, h8, h9, h10, h11, h12, h13, h14, h15, h16, h17, h18, h19⟩ := h
  have a0 := World.block_lt_of_cell? _ _ h0
  dsimp only at a0
  have a1 := World.block_lt_of_cell? _ _ h2
  dsimp only at a1
  have a2 := World.block_lt_of_cell? _ _ h8
  dsimp only at a2
  have a3 := World.block_lt_of_cell? _ _ h14
  dsimp only at a3
  exact ⟨by omega, by omega, by omega, by omega⟩
theorem LD.mk {p q t u : Nat} {e y z k z2 k2 : Int} {w : World} (h0 : w.cell? ⟨p, 0, none⟩ = some ((.int .i64 e))) (h1 : w.cell? ⟨p, 1, none⟩ = some ((.int .i64 y))) (h2 : w.cell? ⟨q, 0, none⟩ = some ((.int .i64 1))) (h3 : w.cell? ⟨q, 1, none⟩ = some ((.int .i64 0))) (h4 : w.cell? ⟨q, 2, none⟩ = some ((.int .i64 (-1)))) (h5 : w.cell? ⟨q, 3, none⟩ = some ((.int .i64 z))) (h6 : w.cell? ⟨q, 4, none⟩ = some ((.int .i64 k))) (h7 : w.cell? ⟨q, 5, none⟩ = some ((.slice none 0 0))) (h8 : w.cell? ⟨t, 0, none⟩ = some ((.int .i64 1))) (h9 : w.cell? ⟨t, 1, none⟩ = some ((.int .i64 0))) (h10 : w.cell? ⟨t, 2, none⟩ = some ((.int .i64 (-1)))) (h11 : w.cell? ⟨t, 3, none⟩ = some ((.int .i64 z2))) (h12 : w.cell? ⟨t, 4, none⟩ = some ((.int .i64 k2))) (h13 : w.cell? ⟨t, 5, none⟩ = some ((.slice none 0 0))) (h14 : w.cell? ⟨u, 0, none⟩ = some ((.int .i64 1))) (h15 : w.cell? ⟨u, 1, none⟩ = some ((.int .i64 0))) (h16 : w.cell? ⟨u, 2, none⟩ = some ((.int .i64 (-1)))) (h17 : w.cell? ⟨u, 3, none⟩ = some ((.int .i64 z2))) (h18 : w.cell? ⟨u, 4, none⟩ = some ((.int .i64 k2))) (h19 : w.cell? ⟨u, 5, none⟩ = some ((.slice none 0 0))) : LD p q t u e y z k z2 k2 w := ⟨h0, h1, h2, h3, h4, h5, h6, h7, h8, h9, h10, h11, h12, h13, h14, h15, h16, h17, h18, h19⟩
theorem LD.cells {p q t u : Nat} {e y z k z2 k2 : Int} {w : World} (h : LD p q t u e y z k z2 k2 w) : w.cell? ⟨p, 0, none⟩ = some ((.int .i64 e)) ∧ w.cell? ⟨p, 1, none⟩ = some ((.int .i64 y)) ∧ w.cell? ⟨q, 0, none⟩ = some ((.int .i64 1)) ∧ w.cell? ⟨q, 1, none⟩ = some ((.int .i64 0)) ∧ w.cell? ⟨q, 2, none⟩ = some ((.int .i64 (-1))) ∧ w.cell? ⟨q, 3, none⟩ = some ((.int .i64 z)) ∧ w.cell? ⟨q, 4, none⟩ = some ((.int .i64 k)) ∧ w.cell? ⟨q, 5, none⟩ = some ((.slice none 0 0)) ∧ w.cell? ⟨t, 0, none⟩ = some ((.int .i64 1)) ∧ w.cell? ⟨t, 1, none⟩ = some ((.int .i64 0)) ∧ w.cell? ⟨t, 2, none⟩ = some ((.int .i64 (-1))) ∧ w.cell? ⟨t, 3, none⟩ = some ((.int .i64 z2)) ∧ w.cell? ⟨t, 4, none⟩ = some ((.int .i64 k2)) ∧ w.cell? ⟨t, 5, none⟩ = some ((.slice none 0 0)) ∧ w.cell? ⟨u, 0, none⟩ = some ((.int .i64 1)) ∧ w.cell? ⟨u, 1, none⟩ = some ((.int .i64 0)) ∧ w.cell? ⟨u, 2, none⟩ = some ((.int .i64 (-1))) ∧ w.cell? ⟨u, 3, none⟩ = some ((.int .i64 z2)) ∧ w.cell? ⟨u, 4, none⟩ = some ((.int .i64 k2)) ∧ w.cell? ⟨u, 5, none⟩ = some ((.slice none 0 0)) := h
theorem rd_int_in {l : List Int} {j : Nat} (hj : j < l.length) : rd l (j : Int) ∈ l := by
  have : rd l (j : Int) = l[j] := by simp [rd, List.getD, hj]
  rw [this]; exact List.getElem_mem hj
set_option maxHeartbeats 40000000 in
theorem keys_up (a : Int) (A : Option Addr) (c : Nat) (l : List Int) (w : World) (hG : Laid w) (h : a < 0 ∨ 999800000 < a ∨ 40 < l.length) :
    Calls Tryd.prog 3 #[.int .i64 a, .slice A l.length c] w fun en w' => en = .returned (.bool true) ∧ Below w.heap.size w w' := by
  have HG := Aside0.mk hG
  clear hG
  have e1 : ((40 : Int) < (l.length : Int)) ↔ 40 < l.length := by omega
  rcases (by rcases h with h | h | h; exact .inl (decide_eq_true h); (by_cases h0 : a < 0; exact .inl (decide_eq_true h0); exact .inr (.inl ⟨decide_eq_false h0, decide_eq_true h⟩)); (by_cases h0 : a < 0; exact .inl (decide_eq_true h0); by_cases h1 : 999800000 < a; exact .inr (.inl ⟨decide_eq_false h0, decide_eq_true h1⟩); exact .inr (.inr ⟨decide_eq_false h0, decide_eq_false h1, decide_eq_true (by omega)⟩)) : decide (a < 0) = true ∨ (decide (a < 0) = false ∧ decide (999800000 < a) = true) ∨ (decide (a < 0) = false ∧ decide (999800000 < a) = false ∧ decide ((40 : Int) < (l.length : Int)) = true)) with d0 | ⟨d0, d1⟩ | ⟨d0, d1, d2⟩
  all_goals
    clear h e1
    go_enter Tryd.func3, Tryd.ntmps3
    go_wp2_with (first
      | (go_at_call 12; refine (head32 _ HG.out).mono ?_; rintro e w1 ⟨rfl, hb⟩))
    go_ret
    exact ⟨rfl, hb⟩
set_option maxHeartbeats 40000000 in
theorem keys_main (a : Int) (A : Option Addr) (c : Nat) (l : List Int) (w : World) (hG : Laid w) (hr : Kd.C (Kd.int .u16) w A l.length l) (hc : l.length ≤ c) (hq : ∀ x ∈ l, 0 ≤ x ∧ x < 65536) (h0 : 0 ≤ a) (h1 : a ≤ 999800000) (h2 : l.length ≤ 40) :
    Calls Tryd.prog 3 #[.int .i64 a, .slice A l.length c] w fun en w' => en = .returned (.bool true) ∧ Below w.heap.size w w' := by
  have HG := Aside0.mk hG
  have HR := Aside0.mk hr
  have HQ := Aside0.mk hq
  have HT := Aside0.mk (root_f a h0 (by omega))
  have HS := Aside0.mk (seal_ok 1 0 (-1) a 0 none 0 0 (a / 2000) (a / 2000 + 2) ⟨h0, by omega, by omega, by omega⟩)
  have d0 : decide (a < 0) = false := decide_eq_false (by omega)
  have d1 : decide (999800000 < a) = false := decide_eq_false (by omega)
  have d2 : decide ((40 : Int) < (l.length : Int)) = false := decide_eq_false (by omega)
  clear hG hr hq
  have hu25 := Tryd.underlying25
  have hu29 := Tryd.underlying29
  go_enter Tryd.func3, Tryd.ntmps3
  go_upto_region 4 with (first
    | (go_at_call 12; refine (head32 _ HG.out).mono ?_; rintro e w1 ⟨rfl, hb⟩; have B1 := Aside0.mk hb; clear hb))
  go_cut [6] (fun v6 wa => ∃ p : Nat, v6 = .pointer (some ⟨p, 0, none⟩) ∧ w.heap.size ≤ p ∧ p < wa.heap.size ∧ (wa.cell? ⟨p, 0, none⟩ = some (.int .i64 (a / 2000)) ∧ wa.cell? ⟨p, 1, none⟩ = some (.int .i64 (a / 2000 + 2))) ∧ (∀ o, wa.frozen? ⟨p, o, none⟩ = false) ∧ Aside0 (Below w.heap.size w wa))
  case first =>
    go_wp2_with (first
      | (go_at_call 13; (with_reducible refine (keyring_Root.calls 300 _ _ _ _ HT.out).mono ?_); rintro e w2 ⟨rfl, hb⟩; have B2 := Aside0.mk (ra_step B1.out hb); clear hb))
    go_meet
    exact ⟨_, rfl, B2.out.size, by simp, ⟨by simp [go_sem], by simp [go_sem]⟩, fun o => by simp [go_sem], ⟨(by repeat (first | with_reducible (first | exact Below.refl _ _ | exact B2.out | refine ra_drewN ?_ _ | refine ra_drew ?_ | refine ra_alloc ?_ _) | with_reducible refine ra_set ?_ _ (by (first | omega | (simp; omega)))))⟩⟩
  case rest =>
   obtain ⟨p, rfl, hwp, hpa, ⟨p0, p1⟩, pz, B2⟩ := hcut
   obtain ⟨w2, hw2⟩ : ∃ w2 : World, w2 = wc := ⟨_, rfl⟩
   subst hw2
   go_upto_region 5 with (fail)
   go_cut [7, 8] (fun v7 v8 wa => ∃ q : Nat, v7 = .pointer (some ⟨q, 0, none⟩) ∧ v8 = .int .i64 0 ∧ w.heap.size ≤ q ∧ p < q ∧ LP p q (a / 2000) (a / 2000 + 2) a (a / 2000 + 1) wa ∧ (∀ o, wa.frozen? ⟨p, o, none⟩ = false) ∧ (∀ o, wa.frozen? ⟨q, o, none⟩ = false) ∧ Aside0 (Below w.heap.size w wa))
   case first =>
    go_wp2_with (first
      | (go_at_call 14; (with_reducible refine (HS.out _).mono ?_); rintro e w3 ⟨rfl, hb⟩; have B3 := Aside0.mk (ra_step B2.out hb); have p0 := (hb.cell (p := ⟨p, 0, none⟩) hpa).trans p0; have p1 := (hb.cell (p := ⟨p, 1, none⟩) hpa).trans p1; have pz := fun o => (hb.frozen (p := ⟨p, o, none⟩) hpa).trans (pz o); have hps : p < w3.heap.size := Nat.lt_of_lt_of_le hpa hb.size; clear hb))
    go_meet
    exact ⟨_, rfl, rfl, by have := B3.out.size; omega, hps, LP.mk (cell_more p0) (cell_more p1) (by simp [go_sem]) (by simp [go_sem]) (by simp [go_sem]) (by simp [go_sem]) (by simp [go_sem]) (by simp [go_sem]), fun o => by simp [go_sem, hps, pz], fun o => by simp [go_sem], ⟨(by repeat (first | with_reducible (first | exact Below.refl _ _ | exact B3.out | refine ra_drewN ?_ _ | refine ra_drew ?_ | refine ra_alloc ?_ _) | with_reducible refine ra_set ?_ _ (by (first | omega | (simp; omega)))))⟩⟩
   case rest =>
    obtain ⟨q, rfl, rfl, hwq, hpq, hL, pz, qz, B3⟩ := hcut
    obtain ⟨w3, hw3⟩ : ∃ w3 : World, w3 = wc := ⟨_, rfl⟩
    subst hw3
    clear B1 B2 p0 p1 HT HS
    go_wp2_with (fail)
    have PZ := Lib.hid pz
    have QZ := Lib.hid qz
    have HL := Aside0.mk hL
    clear pz qz hL
    go_loopg [0, 42] l.length (fun g v0 v42 wr => ∃ (j : Nat) (x : Int), Aside0 (g + j = l.length) ∧ v0 = .int .i64 x ∧ v42 = .int .i64 (j : Nat) ∧ Aside0 (0 ≤ x ∧ x ≤ a + 2000 * (j : Int)) ∧ Aside0 (LP p q (x / 2000) (x / 2000 + 2) x (x / 2000 + 1) wr) ∧ Hid (∀ o, wr.frozen? ⟨p, o, none⟩ = false) ∧ Hid (∀ o, wr.frozen? ⟨q, o, none⟩ = false) ∧ Aside0 (Below w.heap.size w wr))
    case atStart => exact ⟨0, a, ⟨rfl⟩, rfl, rfl, ⟨h0, by omega⟩, HL, PZ, QZ, B3⟩
    case round =>
     obtain ⟨j, x, HJ, rfl, rfl, HX, HL, PZ, QZ, B4⟩ := hrel
     by_cases hlt : j < l.length
     · obtain ⟨ad, ea, z0⟩ := Kd.at_int (Kd.C_below HR.out B4.out) (j : Int) (by omega) (by omega)
       subst ea
       simp only [Int.toNat_natCast] at z0
       have hv := HQ.out _ (rd_int_in hlt)
       obtain ⟨v, hvv⟩ : ∃ v, v = rd l (j : Int) := ⟨_, rfl⟩
       rw [← hvv] at z0 hv
       clear hvv
       obtain ⟨k, hk⟩ : ∃ k, gk = k + 1 := ⟨gk - 1, by have := HJ.out; omega⟩
       subst hk
       have hx0 := HX.out.1
       have hx1 := HX.out.2
       have t1 : Int.tmod v 2000 = v % 2000 := Int.tmod_eq_emod_of_nonneg hv.1
       obtain ⟨X, hX⟩ : ∃ X, X = x + (1 + v % 2000) := ⟨_, rfl⟩
       have hX0 : 0 ≤ X := by omega
       have hX1 : X ≤ 1000000000 := by have := HJ.out; omega
       have t2 : IntKind.i64.wrap (1 + v % 2000) = 1 + v % 2000 := IntWalk.i64_in _ (by omega)
       have t3 : IntKind.i64.wrap (x + (1 + v % 2000)) = X := by rw [hX]; exact IntWalk.i64_in _ (by omega)
       have t4 : IntKind.i64.wrap v = v := IntWalk.i64_in _ (by omega)
       have t5 : IntKind.i64.wrap (v % 2000) = v % 2000 := IntWalk.i64_in _ (by omega)
       have t6 : decide ((j : Int) < (l.length : Int)) = true := decide_eq_true (by omega)
       go_upto_region 12 with (fail)
       rw [← hX]
       have hXd : x < X ∧ X ≤ x + 2000 := by omega
       clear t1 t2 t3 t4 t5 t6 z0 hv hX
       obtain ⟨e0, he0⟩ : ∃ e0, e0 = x / 2000 := ⟨_, rfl⟩
       obtain ⟨e, he⟩ : ∃ e, e = X / 2000 := ⟨_, rfl⟩
       have hee : e0 ≤ e ∧ e ≤ e0 + 1 := by omega
       have hA := age_f (x / 2000) (x / 2000 + 2) X hX0 hX1 (by omega) (by omega) (by omega) (by omega) (by omega)
       have hT := root_f X hX0 hX1
       have hS1 := seal_ok 1 0 (-1) X 0 none 0 0 (X / 2000) (X / 2000 + 2) ⟨hX0, hX1, by omega, by omega⟩
       have hS2 := seal_ok 1 0 (-1) X 0 none 0 0 (X / 2000) (x / 2000 + 2) ⟨hX0, hX1, by omega, by omega⟩
       have o1 : openE X (X / 2000 + 1) (X / 2000) (x / 2000 + 2) X = 0 := by unfold openE; rw [if_neg (by omega), if_neg (by omega), if_pos ⟨rfl, by omega, by omega⟩]
       have o2 : openE X (X / 2000 + 1) (X / 2000) (X / 2000 + 2) X = 0 := by unfold openE; rw [if_neg (by omega), if_neg (by omega), if_pos ⟨rfl, by omega, by omega⟩]
       have o3 : openE x (x / 2000 + 1) (X / 2000) (x / 2000 + 2) X = 14 := by unfold openE; rw [if_neg (by omega), if_pos (by omega)]
       have hO1 := open_all 1 0 (-1) X (X / 2000 + 1) (.slice none 0 0) (X / 2000) (x / 2000 + 2) X
       have hO2 := open_all 1 0 (-1) X (X / 2000 + 1) (.slice none 0 0) (X / 2000) (X / 2000 + 2) X
       have hO3 := open_all 1 0 (-1) x (x / 2000 + 1) (.slice none 0 0) (X / 2000) (x / 2000 + 2) X
       rw [o1] at hO1
       rw [o2] at hO2
       rw [o3] at hO3
       have hLn := fun W => learn_yes (X / 2000) (x / 2000 + 2) X W hX0 hX1 rfl (by omega) (by omega)
       rw [← he0] at hA hS2 hO1 hO3 hLn HL
       rw [← he] at hA hT hS1 hS2 hO1 hO2 hO3 hLn
       clear o1 o2 o3
       obtain ⟨y, hy⟩ : ∃ y, y = e0 + 2 := ⟨_, rfl⟩
       obtain ⟨ye, hye⟩ : ∃ ye, ye = e + 2 := ⟨_, rfl⟩
       obtain ⟨k0, hk0⟩ : ∃ k0, k0 = e0 + 1 := ⟨_, rfl⟩
       obtain ⟨ke, hke⟩ : ∃ ke, ke = e + 1 := ⟨_, rfl⟩
       rw [← hy] at hA hS2 hO1 hO3 hLn HL
       rw [← hye] at hT hS1 hO2 hLn
       rw [← hk0] at hO3 HL
       rw [← hke] at hS1 hS2 hO1 hO2
       have HA := Aside0.mk hA
       have HT := Aside0.mk hT
       have HS1 := Aside0.mk hS1
       have HS2 := Aside0.mk hS2
       have HO1 := Aside0.mk hO1
       have HO2 := Aside0.mk hO2
       have HO3 := Aside0.mk hO3
       have HLn := Aside0.mk hLn
       have Hhe := Aside0.mk he
       have Hhye := Aside0.mk hye
       have Hhke := Aside0.mk hke
       have HXX := Aside0.mk (show 0 ≤ X ∧ X ≤ a + 2000 * ((j + 1 : Nat) : Int) by omega)
       have hpL : p < wr.heap.size := World.block_lt_of_cell? _ _ HL.out.1
       have hqL : q < wr.heap.size := World.block_lt_of_cell? _ _ HL.out.2.2.1
       have hws : w.heap.size ≤ wr.heap.size := B4.out.size
       clear hA hT hS1 hS2 hO1 hO2 hO3 hLn he hye hke hk0 hy he0 hee hXd hX0 hX1 hx0 hx1 HX
       go_cut [] (fun wa => LP p q e y x k0 wa ∧ (∀ o, wa.frozen? ⟨p, o, none⟩ = false) ∧ (∀ o, wa.frozen? ⟨q, o, none⟩ = false) ∧ Aside0 (Below w.heap.size w wa))
       case first =>
        obtain ⟨x0, x1, x2, x3, x4, x5, x6, x7⟩ := HL.out.cells
        go_wp2_with (first
         | (go_at_call 15; (with_reducible refine (keyring_Age.calls 300 _ _ _ _ _ _ HA.out).mono ?_); rintro en w5 ⟨rfl, hb⟩; have B5 := Aside0.mk (ra_step B4.out hb); obtain ⟨y0, y1, y2, y3, y4, y5, y6, y7⟩ := (LP.call hb HL.out).cells; have pz := fun o => (hb.frozen (p := ⟨p, o, none⟩) hpL).trans (PZ.out o); have qz := fun o => (hb.frozen (p := ⟨q, o, none⟩) hqL).trans (QZ.out o); clear hb))
        go_meet
        have hqp : q ≠ p := by omega
        have hpq' : p ≠ q := by omega
        exact ⟨LP.mk (by simp [go_sem, *]) (by simp [go_sem, *]) (by simp [go_sem, *]) (by simp [go_sem, *]) (by simp [go_sem, *]) (by simp [go_sem, *]) (by simp [go_sem, *]) (by simp [go_sem, *]), fun o => by simp [go_sem, pz], fun o => by simp [go_sem, qz], ⟨by repeat (first | (with_reducible refine ra_set ?_ _ (by dsimp only; omega)) | exact B5.out)⟩⟩
       case rest =>
        obtain ⟨hl, pz, qz, B5⟩ := hcut
        obtain ⟨w5, hw5⟩ : ∃ w5 : World, w5 = wc := ⟨_, rfl⟩
        subst hw5
        clear HL HA
        have hp5 : p < w5.heap.size := World.block_lt_of_cell? _ _ hl.1
        have hq5 : q < w5.heap.size := World.block_lt_of_cell? _ _ hl.2.2.1
        go_upto_region 13 with (fail)
        go_cut [11] (fun v11 wa => ∃ f : Nat, v11 = .pointer (some ⟨f, 0, none⟩) ∧ w5.heap.size ≤ f ∧ f < wa.heap.size ∧ SF f X 0 wa ∧ Aside0 (Below w5.heap.size w5 wa))
        case first =>
         go_wp2_with (fail)
         go_meet
         exact ⟨_, rfl, Nat.le_refl _, by simp, SF.mk (by simp [go_sem]) (by simp [go_sem]) (by simp [go_sem]) (by simp [go_sem]) (by simp [go_sem]) (by simp [go_sem]), ⟨(by repeat (first | with_reducible (first | exact Below.refl _ _ | assumption | refine ra_drewN ?_ _ | refine ra_drew ?_ | refine ra_alloc ?_ _) | with_reducible refine ra_set ?_ _ (by (first | omega | (simp; omega)))))⟩⟩
        case rest =>
         obtain ⟨f, rfl, h5f, hf6, hsf, B6⟩ := hcut
         obtain ⟨w6, hw6⟩ : ∃ w6 : World, w6 = wc := ⟨_, rfl⟩
         subst hw6
         have n0 := hsf.ne
         have m0 := hsf.ne1
         go_upto_region 14 with (fail)
         go_cut [12, 13] (fun v12 v13 wa => ∃ t : Nat, v12 = .pointer (some ⟨t, 0, none⟩) ∧ v13 = .int .i64 0 ∧ w6.heap.size ≤ t ∧ t < wa.heap.size ∧ SF t X ke wa ∧ Aside0 (Below w6.heap.size w6 wa))
         case first =>
          obtain ⟨x0, x1, x2, x3, x4, x5⟩ := hsf.cells
          go_region_held3 (fun w' => w'.cell? ⟨f, 0, none⟩ = some (.int .i64 1) ∧ w'.cell? ⟨f, 1, none⟩ = some (.int .i64 0) ∧ w'.cell? ⟨f, 2, none⟩ = some (.int .i64 (-1)) ∧ w'.cell? ⟨f, 3, none⟩ = some (.int .i64 X) ∧ w'.cell? ⟨f, 4, none⟩ = some (.int .i64 0) ∧ w'.cell? ⟨f, 5, none⟩ = some (.slice none 0 0)) ((show SF f X 0 _; repeat' (first | (with_reducible assumption) | (with_reducible refine SF.alloc _ ?_) | (with_reducible refine SF.drew ?_) | (with_reducible refine SF.set ?_ ?_)))) (first
           | (go_at_call 13; (with_reducible refine (keyring_Root.calls 300 _ _ _ _ HT.out).mono ?_); rintro en w7 ⟨rfl, hb⟩; have hb7 := hb; (try (first | ((with_reducible have hx_ := seen1d hb); obtain ⟨sc60, sf60, sz60⟩ := hx_) | ((with_reducible have hx_ := seen1 hb); obtain ⟨sc60, sf60, sz60⟩ := hx_))); have qq7 : SF f X 0 _ := SF.call hb (by assumption); have n7 := qq7.ne; have m7 := qq7.ne1)
           | (go_at_call 14; (with_reducible refine (HS1.out _).mono ?_); rintro en w8 ⟨rfl, hb⟩; have hb8 := hb; (try (first | ((with_reducible have hx_ := seen1d hb); obtain ⟨sc80, sf80, sz80⟩ := hx_) | ((with_reducible have hx_ := seen1 hb); obtain ⟨sc80, sf80, sz80⟩ := hx_))); (try ((have hx2_ := seen hb _ sz60); obtain ⟨tc60, tf60, tz60, _⟩ := hx2_)); have qq8 : SF f X 0 _ := SF.call hb (by assumption); have n8 := qq8.ne; have m8 := qq8.ne1))
          all_goals
           have hb7s := hb7.size
           have hb8s := hb8.size
           simp at hb7s hb8s
           try go_wp2_with (fail)
           go_meet
           refine ⟨_, rfl, rfl, ?_, ?_, SF.mk ?_ ?_ ?_ ?_ ?_ ?_, ⟨?_⟩⟩
           rotate_right
           · repeat (first | (with_reducible exact Below.refl _ _) | (with_reducible refine ra_drewN ?_ _) | (with_reducible refine ra_drew ?_) | (with_reducible refine ra_alloc ?_ _) | (with_reducible refine ra_set ?_ _ (by first | (simp; done) | (simp; omega) | omega)) | (with_reducible refine ra_step ?_ hb8) | (with_reducible refine ra_step ?_ hb7))
           all_goals clear HG HR HQ HT HS1 HS2 HO1 HO2 HO3 HLn hsf hl PZ QZ pz qz
           any_goals (first | (simp [go_sem]; done) | (simp [go_sem, *]; done))
           all_goals (first | omega | (simp; omega))
         case rest =>
          obtain ⟨t, rfl, rfl, h6t, ht9, hst, B9⟩ := hcut
          obtain ⟨w9, hw9⟩ : ∃ w9 : World, w9 = wc := ⟨_, rfl⟩
          subst hw9
          have l6 := LP.call B6.out hl
          have l9 := LP.call B9.out l6
          have s9 := SF.call B9.out hsf
          obtain ⟨x0, x1, x2, x3, x4, x5⟩ := s9.cells
          obtain ⟨y0, y1, y2, y3, y4, y5, y6, y7⟩ := l9.cells
          have ht5 : w5.heap.size ≤ w6.heap.size := B6.out.size
          have ht6 : w6.heap.size ≤ w9.heap.size := B9.out.size
          clear n0 m0 hsf l6 s9
          go_upto_region 15 with (fail)
          go_cut [14, 15] (fun v14 v15 wa => ∃ u : Nat, v14 = .pointer (some ⟨u, 0, none⟩) ∧ v15 = .int .i64 0 ∧ w9.heap.size ≤ u ∧ SF u X ke wa ∧ Aside0 (Below w9.heap.size w9 wa))
          case first =>
           go_wp2_with (first
            | (go_at_call 14; (with_reducible refine (HS2.out _).mono ?_); rintro en w10 ⟨rfl, hb⟩; have B10 := Aside0.mk hb; have hs10 : w9.heap.size ≤ w10.heap.size := hb.size; clear hb))
           go_meet
           exact ⟨_, rfl, rfl, hs10, SF.mk (by simp [go_sem]) (by simp [go_sem]) (by simp [go_sem]) (by simp [go_sem]) (by simp [go_sem]) (by simp [go_sem]), ⟨(by repeat (first | with_reducible (first | exact Below.refl _ _ | exact B10.out | refine ra_drewN ?_ _ | refine ra_drew ?_ | refine ra_alloc ?_ _) | with_reducible refine ra_set ?_ _ (by (first | omega | (simp; omega)))))⟩⟩
          case rest =>
           obtain ⟨u, rfl, rfl, h9u, hsu, B10⟩ := hcut
           obtain ⟨w10, hw10⟩ : ∃ w10 : World, w10 = wc := ⟨_, rfl⟩
           subst hw10
           clear x0 x1 x2 x3 x4 x5 y0 y1 y2 y3 y4 y5 y6 y7
           have q0 : LD p q t u e y x k0 X ke w10 := by
            obtain ⟨y0, y1, y2, y3, y4, y5, y6, y7⟩ := (LP.call B10.out l9).cells
            obtain ⟨x0, x1, x2, x3, x4, x5⟩ := (SF.call B10.out hst).cells
            obtain ⟨u0, u1, u2, u3, u4, u5⟩ := hsu.cells
            exact LD.mk y0 y1 y2 y3 y4 y5 y6 y7 x0 x1 x2 x3 x4 x5 u0 u1 u2 u3 u4 u5
           have Bx := Aside0.mk (ra_step (ra_step B6.out B9.out) B10.out)
           have B11 := Aside0.mk (ra_step B5.out Bx.out)
           have PZ := Lib.hid (fun o => (Bx.out.frozen (p := ⟨p, o, none⟩) hp5).trans (pz o))
           have QZ := Lib.hid (fun o => (Bx.out.frozen (p := ⟨q, o, none⟩) hq5).trans (qz o))
           have hqt : q ≠ t := by omega
           have hqu : q ≠ u := by omega
           have hpt : p ≠ t := by omega
           have hpu : p ≠ u := by omega
           have h9s : w9.heap.size ≤ w10.heap.size := B10.out.size
           have hp10 : p < w10.heap.size := by omega
           have hq10 : q < w10.heap.size := by omega
           clear hsu hst l9 hl pz qz B6 B9 B10 Bx HS1 HS2
           go_upto_region 16 with (fail)
           go_cut [104] (fun v104 wa => v104 = .bool false ∧ LD p q t u e y x k0 X ke wa ∧ Aside0 (Below w10.heap.size w10 wa))
           case first =>
            go_region_held3 (fun w' => w'.cell? ⟨p, 0, none⟩ = some (.int .i64 e) ∧ w'.cell? ⟨p, 1, none⟩ = some (.int .i64 y) ∧ w'.cell? ⟨q, 0, none⟩ = some (.int .i64 1) ∧ w'.cell? ⟨q, 1, none⟩ = some (.int .i64 0) ∧ w'.cell? ⟨q, 2, none⟩ = some (.int .i64 (-1)) ∧ w'.cell? ⟨q, 3, none⟩ = some (.int .i64 x) ∧ w'.cell? ⟨q, 4, none⟩ = some (.int .i64 k0) ∧ w'.cell? ⟨q, 5, none⟩ = some (.slice none 0 0) ∧ w'.cell? ⟨t, 0, none⟩ = some (.int .i64 1) ∧ w'.cell? ⟨t, 1, none⟩ = some (.int .i64 0) ∧ w'.cell? ⟨t, 2, none⟩ = some (.int .i64 (-1)) ∧ w'.cell? ⟨t, 3, none⟩ = some (.int .i64 X) ∧ w'.cell? ⟨t, 4, none⟩ = some (.int .i64 ke) ∧ w'.cell? ⟨t, 5, none⟩ = some (.slice none 0 0) ∧ w'.cell? ⟨u, 0, none⟩ = some (.int .i64 1) ∧ w'.cell? ⟨u, 1, none⟩ = some (.int .i64 0) ∧ w'.cell? ⟨u, 2, none⟩ = some (.int .i64 (-1)) ∧ w'.cell? ⟨u, 3, none⟩ = some (.int .i64 X) ∧ w'.cell? ⟨u, 4, none⟩ = some (.int .i64 ke) ∧ w'.cell? ⟨u, 5, none⟩ = some (.slice none 0 0)) ((show LD p q t u e y x k0 X ke _; repeat' (first | (with_reducible assumption) | (with_reducible refine LD.drew ?_)))) (first
             | (go_at_call 16; (with_reducible refine (HO1.out _).mono ?_); rintro en w11 ⟨rfl, hb⟩; have hb11 := hb; have qq11 : LD p q t u e y x k0 X ke _ := LD.call hb (by assumption))
             | (go_at_call 13; (with_reducible refine (keyring_Root.calls 300 _ _ _ _ HT.out).mono ?_); rintro en w12 ⟨rfl, hb⟩; have hb12 := hb; have qq12 : LD p q t u e y x k0 X ke _ := LD.call hb (by assumption))
             | (go_at_call 16; (with_reducible refine (HO2.out _).mono ?_); rintro en w13 ⟨rfl, hb⟩; have hb13 := hb; have qq13 : LD p q t u e y x k0 X ke _ := LD.call hb (by assumption))
             | (go_at_call 16; (with_reducible refine (HO3.out _).mono ?_); rintro en w14 ⟨rfl, hb⟩; have hb14 := hb; have qq14 : LD p q t u e y x k0 X ke _ := LD.call hb (by assumption)))
            all_goals
             try go_wp2_with (fail)
             go_meet
             exact ⟨rfl, qq14, ⟨by repeat (first | (with_reducible exact Below.refl _ _) | (with_reducible refine ra_drewN ?_ _) | (with_reducible refine ra_drew ?_) | (with_reducible refine ra_step ?_ hb14) | (with_reducible refine ra_step ?_ hb13) | (with_reducible refine ra_step ?_ hb12) | (with_reducible refine ra_step ?_ hb11))⟩⟩
           case rest =>
            obtain ⟨rfl, q1, B12⟩ := hcut
            obtain ⟨w16, hw16⟩ : ∃ w16 : World, w16 = wc := ⟨_, rfl⟩
            subst hw16
            have B13 := Aside0.mk (ra_step B11.out B12.out)
            have PZ := Lib.hid (fun o => (B12.out.frozen (p := ⟨p, o, none⟩) hp10).trans (PZ.out o))
            have QZ := Lib.hid (fun o => (B12.out.frozen (p := ⟨q, o, none⟩) hq10).trans (QZ.out o))
            have h16s : w10.heap.size ≤ w16.heap.size := B12.out.size
            have hp16 : p < w16.heap.size := by omega
            have hq16 : q < w16.heap.size := by omega
            have Q1 := Aside0.mk q1
            clear q0 q1 B11 B12 HO1 HO2 HO3
            go_upto_region 18 with (fail)
            go_cut [] (fun wa => LD p q t u e ye x k0 X ke wa ∧ (∀ o, wa.frozen? ⟨p, o, none⟩ = false) ∧ (∀ o, wa.frozen? ⟨q, o, none⟩ = false) ∧ Aside0 (Below w.heap.size w wa))
            case first =>
             obtain ⟨y0, y1, _, _, _, _, _, _, _, _, _, _, _, _, _, _, _, _, _, _⟩ := Q1.out.cells
             have pz := PZ.out
             have pz16 := Lib.hid PZ.out
             go_region_with (first
              | (go_at_call 13; (with_reducible refine (keyring_Root.calls 300 _ _ _ _ HT.out).mono ?_); rintro en w17 ⟨rfl, hb⟩; have hb17 := hb; have L17 := Aside0.mk (LD.call hb Q1.out); have z0 := (hb.cell (p := ⟨p, 0, none⟩) hp16).trans y0; have z1 := (hb.cell (p := ⟨p, 1, none⟩) hp16).trans y1; have hs17 : w16.heap.size ≤ w17.heap.size := hb.size; have pz := fun o => (hb.frozen (p := ⟨p, o, none⟩) hp16).trans (pz16.out o); clear hb)
              | (go_at_call 17; (with_reducible refine (HLn.out _).mono ?_); rintro en w18 ⟨rfl, hb⟩; have hb18 := hb; have L18 := Aside0.mk (LD.call hb L17.out); obtain ⟨z0, z1, z2, z3, z4, z5, z6, z7, z8, z9, z10, z11, z12, z13, z14, z15, z16, z17, z18, z19⟩ := L18.out.cells; have hp17 : p < w17.heap.size := Nat.lt_of_lt_of_le hp16 hs17; have pz := fun o => (hb.frozen (p := ⟨p, o, none⟩) hp17).trans (pz o); clear hb))
             all_goals
              try go_wp2_with (fail)
              go_meet
              have hqp : q ≠ p := by omega
              have htp : t ≠ p := fun e => hpt e.symm
              have hup : u ≠ p := fun e => hpu e.symm
              have hq17 : q < w17.heap.size := Nat.lt_of_lt_of_le hq16 hs17
              exact ⟨LD.mk (by simp [go_sem, z0, z1]) (by simp [go_sem, z0, z1]) (cell_off (cell_off z2 hqp) hqp) (cell_off (cell_off z3 hqp) hqp) (cell_off (cell_off z4 hqp) hqp) (cell_off (cell_off z5 hqp) hqp) (cell_off (cell_off z6 hqp) hqp) (cell_off (cell_off z7 hqp) hqp) (cell_off (cell_off z8 htp) htp) (cell_off (cell_off z9 htp) htp) (cell_off (cell_off z10 htp) htp) (cell_off (cell_off z11 htp) htp) (cell_off (cell_off z12 htp) htp) (cell_off (cell_off z13 htp) htp) (cell_off (cell_off z14 hup) hup) (cell_off (cell_off z15 hup) hup) (cell_off (cell_off z16 hup) hup) (cell_off (cell_off z17 hup) hup) (cell_off (cell_off z18 hup) hup) (cell_off (cell_off z19 hup) hup), fun o => by simp [go_sem, pz], fun o => (show _ = false by simp [go_sem, (hb18.frozen (p := ⟨q, o, none⟩) hq17).trans ((hb17.frozen (p := ⟨q, o, none⟩) hq16).trans (QZ.out o))]), ⟨by repeat (first | (with_reducible refine ra_set ?_ _ (by dsimp only; omega)) | (with_reducible refine ra_step ?_ hb18) | (with_reducible refine ra_step ?_ hb17) | (with_reducible refine ra_drew ?_) | exact B13.out)⟩⟩
            case rest =>
             obtain ⟨q1, pz, qz, B14⟩ := hcut
             obtain ⟨w19, hw19⟩ : ∃ w19 : World, w19 = wc := ⟨_, rfl⟩
             subst hw19
             have Q2 := Aside0.mk q1
             have PZ2 := Lib.hid pz
             have QZ2 := Lib.hid qz
             have hp19 : p < w19.heap.size := World.block_lt_of_cell? _ _ q1.1
             have hq19 : q < w19.heap.size := World.block_lt_of_cell? _ _ q1.2.2.1
             clear q1 Q1 pz qz PZ QZ B13 HLn
             go_upto_region 19 with (fail)
             go_cut [113] (fun v113 wa => v113 = .bool false ∧ LD p q t u e ye x k0 X ke wa ∧ (∀ o, wa.frozen? ⟨p, o, none⟩ = false) ∧ (∀ o, wa.frozen? ⟨q, o, none⟩ = false) ∧ Aside0 (Below w.heap.size w wa))
             case first =>
              obtain ⟨y0, y1, _, _, _, _, _, _, _, _, _, _, _, _, _, _, _, _, _, _⟩ := Q2.out.cells
              go_region_with (first
               | (go_at_call 13; (with_reducible refine (keyring_Root.calls 300 _ _ _ _ HT.out).mono ?_); rintro en w20 ⟨rfl, hb⟩; have hb20 := hb; have L20 := Aside0.mk (LD.call hb Q2.out); have z0 := (hb.cell (p := ⟨p, 0, none⟩) hp19).trans y0; have z1 := (hb.cell (p := ⟨p, 1, none⟩) hp19).trans y1; clear hb))
              all_goals
               try go_wp2_with (fail)
               go_meet
               exact ⟨rfl, by repeat (first | (with_reducible exact L20.out) | (with_reducible refine LD.drew ?_)), fun o => (hb20.frozen (p := ⟨p, o, none⟩) hp19).trans (PZ2.out o), fun o => (hb20.frozen (p := ⟨q, o, none⟩) hq19).trans (QZ2.out o), ⟨by repeat (first | (with_reducible refine ra_step ?_ hb20) | (with_reducible refine ra_drew ?_) | exact B14.out)⟩⟩
             case rest =>
              obtain ⟨rfl, q1, pz, qz, B15⟩ := hcut
              obtain ⟨w21, hw21⟩ : ∃ w21 : World, w21 = wc := ⟨_, rfl⟩
              subst hw21
              clear Q2 PZ2 QZ2 B14
              have huq : u ≠ q := fun e => hqu e.symm
              have hqp : q ≠ p := by omega
              have hpq2 : p ≠ q := by omega
              obtain ⟨y0, y1, y2, y3, y4, y5, y6, y7, _, _, _, _, _, _, x0, x1, x2, x3, x4, x5⟩ := q1.cells
              have jw : IntKind.i64.wrap ((j : Int) + 1) = ((j + 1 : Nat) : Int) := by rw [IntWalk.i64_in _ (by omega)]; push_cast; rfl
              go_wp2_with (fail)
              go_roundg k
              case measure => omega
              case rel =>
               refine ⟨j + 1, X, ⟨by have := HJ.out; omega⟩, rfl, by first | rfl | (push_cast; rfl) | go_num, HXX, ⟨?_⟩, ?_, ?_, ⟨?_⟩⟩
               · rw [← Hhe.out, ← Hhye.out, ← Hhke.out]
                 exact LP.mk (by simp [go_sem, *]) (by simp [go_sem, *]) (by simp [go_sem, *]) (by simp [go_sem, *]) (by simp [go_sem, *]) (by simp [go_sem, *]) (by simp [go_sem, *]) (by simp [go_sem, *])
               · exact fun o => by simp [go_sem, pz]
               · exact fun o => by simp [go_sem, qz]
               · repeat (first | (with_reducible refine ra_set ?_ _ (by dsimp only; omega)) | (with_reducible refine ra_drew ?_) | exact B15.out)
     · have hj : j = l.length := by have := HJ.out; omega
       subst hj
       have t6 : decide ((l.length : Int) < (l.length : Int)) = false := decide_eq_false (by omega)
       clear hlt HX
       go_wp2_with (fail)
       go_ret
       exact ⟨rfl, (by repeat (first | with_reducible (first | exact Below.refl _ _ | exact B4.out | refine ra_drewN ?_ _ | refine ra_drew ?_ | refine ra_alloc ?_ _) | with_reducible refine ra_set ?_ _ (by (first | omega | (simp; omega)))))⟩
theorem topKeysInStep_walk (a0 : Int) (A1 : Option Addr) (c1 : Nat) (l1 : List Int) (W : World) (hG : Laid W) (_ : -9223372036854775808 ≤ a0 ∧ a0 ≤ 9223372036854775807)
    (hr1 : Kd.C (Kd.int .u16) W A1 l1.length l1) (hc1 : l1.length ≤ c1) (_ : l1.length * 2 ≤ 140737488351232) (hq1 : ∀ x ∈ l1, 0 ≤ x ∧ x < 65536) :
    Calls Tryd.prog 3 #[.int .i64 a0, .slice A1 l1.length c1] W fun e w' => e = .returned (.bool true) ∧ Below W.heap.size W w' := by
  by_cases h : a0 < 0 ∨ 999800000 < a0 ∨ 40 < l1.length
  · exact keys_up a0 A1 c1 l1 W hG h
  · exact keys_main a0 A1 c1 l1 W hG hr1 hc1 hq1 (by omega) (by omega) (by omega)
end Go.Proofs.YtncgeclkgmfppaaDoor.H
