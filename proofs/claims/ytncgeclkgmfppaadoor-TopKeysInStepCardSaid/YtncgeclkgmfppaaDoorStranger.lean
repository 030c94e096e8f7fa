/-
  The stranger's methods (package slotmeshtop): asking, answering a challenge, hearing a welcome, where the sponsor has no other join.
-/
import Derived.Test.YtncgeclkgmfppaaDoorGr
import Derived.Test.YtncgeclkgmfppaaDoorJoinR
import Derived.Test.YtncgeclkgmfppaaDoorH7
import Derived.Test.YtncgeclkgmfppaaDoorH10
import Derived.Outline
import Derived.IntWalk
import Derived.Lib.Hide
import Derived.Deep.RegionHeld3
import Derived.Deep.QuietTactic
import Derived.BigQuiet
namespace Go.Proofs.YtncgeclkgmfppaaDoor.H
open Go.RowKit Go.Proofs.YtncgeclkgmfppaaDoorW.PrintWords Go.Proofs.YtncgeclkgmfppaaDoorW.PrintLast Go.Proofs.YtncgeclkgmfppaaDoorW.PrintMore
set_option linter.unusedVariables false
set_option linter.unusedSimpArgs false
set_option maxRecDepth 100000
theorem seen {W w1 : World} (hb : Below W.heap.size W w1) (b : Nat) (h : b < W.heap.size) : (∀ o, w1.cell? ⟨b, o, none⟩ = W.cell? ⟨b, o, none⟩) ∧ (∀ o, w1.frozen? ⟨b, o, none⟩ = W.frozen? ⟨b, o, none⟩) ∧ b < w1.heap.size ∧ b < w1.heap.size + 1 ∧ b < w1.heap.size + 1 + 1 ∧ b < w1.heap.size + 1 + 1 + 1 :=
  ⟨fun o => hb.cell (p := ⟨b, o, none⟩) h, fun o => hb.frozen (p := ⟨b, o, none⟩) h, by have := hb.size; omega, by have := hb.size; omega, by have := hb.size; omega, by have := hb.size; omega⟩
theorem cell_more {w : World} {p : Addr} {v : Value} {o : Obj} (h : w.cell? p = some v) : (w.alloc o).cell? p = some v := by
  have hb : p.block < w.heap.size := by
    rcases Nat.lt_or_ge p.block w.heap.size with hlt | hge
    · exact hlt
    · simp [World.cell?, Array.getElem?_eq_none hge] at h
  rw [World.cell?_alloc_lt w o p hb]; exact h
theorem cell_away {w : World} {b c o i : Nat} {v x : Value} (h : w.cell? ⟨b, o, none⟩ = some x) (hn : b ≠ c) : (w.setCell ⟨c, i, none⟩ v).cell? ⟨b, o, none⟩ = some x := by
  rw [World.cell?_setCell_far _ _ _ _ (fun e => hn e.symm)]; exact h
theorem lt_alloc {W : World} {b : Nat} {o : Obj} (h : b < W.heap.size) : b < (W.alloc o).heap.size := by simp; omega
theorem seen1 {W w1 : World} {o : Obj} (hb : Below (W.alloc o).heap.size (W.alloc o) w1) : (∀ i, w1.cell? ⟨W.heap.size, i, none⟩ = (W.alloc o).cell? ⟨W.heap.size, i, none⟩) ∧ (∀ i, w1.frozen? ⟨W.heap.size, i, none⟩ = (W.alloc o).frozen? ⟨W.heap.size, i, none⟩) ∧ W.heap.size < w1.heap.size := by
  obtain ⟨a, b, c, _⟩ := seen hb W.heap.size (by simp)
  exact ⟨a, b, c⟩
theorem seen2 {W w1 : World} {o o2 : Obj} (hb : Below ((W.alloc o).alloc o2).heap.size ((W.alloc o).alloc o2) w1) : ((∀ i, w1.cell? ⟨W.heap.size, i, none⟩ = ((W.alloc o).alloc o2).cell? ⟨W.heap.size, i, none⟩) ∧ (∀ i, w1.frozen? ⟨W.heap.size, i, none⟩ = ((W.alloc o).alloc o2).frozen? ⟨W.heap.size, i, none⟩) ∧ W.heap.size < w1.heap.size) ∧ ((∀ i, w1.cell? ⟨W.heap.size + 1, i, none⟩ = ((W.alloc o).alloc o2).cell? ⟨W.heap.size + 1, i, none⟩) ∧ (∀ i, w1.frozen? ⟨W.heap.size + 1, i, none⟩ = ((W.alloc o).alloc o2).frozen? ⟨W.heap.size + 1, i, none⟩) ∧ W.heap.size + 1 < w1.heap.size) := by
  obtain ⟨a, b, c, _⟩ := seen hb W.heap.size (by simp; omega)
  obtain ⟨a', b', c', _⟩ := seen hb (W.heap.size + 1) (by simp)
  exact ⟨⟨a, b, c⟩, a', b', c'⟩
theorem seen1d {W w1 : World} {o : Obj} (hb : Below (W.alloc o).drew.heap.size (W.alloc o).drew w1) : (∀ i, w1.cell? ⟨W.heap.size, i, none⟩ = (W.alloc o).cell? ⟨W.heap.size, i, none⟩) ∧ (∀ i, w1.frozen? ⟨W.heap.size, i, none⟩ = (W.alloc o).frozen? ⟨W.heap.size, i, none⟩) ∧ W.heap.size < w1.heap.size := by
  obtain ⟨a, b, c, _⟩ := seen hb W.heap.size (by simp)
  exact ⟨fun i => (a i).trans (World.cell?_drew _ _), fun i => (b i).trans rfl, c⟩
theorem seen2d {W w1 : World} {o o2 : Obj} (hb : Below ((W.alloc o).alloc o2).drew.heap.size ((W.alloc o).alloc o2).drew w1) : ((∀ i, w1.cell? ⟨W.heap.size, i, none⟩ = ((W.alloc o).alloc o2).cell? ⟨W.heap.size, i, none⟩) ∧ (∀ i, w1.frozen? ⟨W.heap.size, i, none⟩ = ((W.alloc o).alloc o2).frozen? ⟨W.heap.size, i, none⟩) ∧ W.heap.size < w1.heap.size) ∧ ((∀ i, w1.cell? ⟨W.heap.size + 1, i, none⟩ = ((W.alloc o).alloc o2).cell? ⟨W.heap.size + 1, i, none⟩) ∧ (∀ i, w1.frozen? ⟨W.heap.size + 1, i, none⟩ = ((W.alloc o).alloc o2).frozen? ⟨W.heap.size + 1, i, none⟩) ∧ W.heap.size + 1 < w1.heap.size) := by
  obtain ⟨a, b, c, _⟩ := seen hb W.heap.size (by simp; omega)
  obtain ⟨a', b', c', _⟩ := seen hb (W.heap.size + 1) (by simp)
  exact ⟨⟨fun i => (a i).trans (World.cell?_drew _ _), fun i => (b i).trans rfl, c⟩, fun i => (a' i).trans (World.cell?_drew _ _), fun i => (b' i).trans rfl, c'⟩
theorem cell_later {w W : World} {p : Addr} {v : Value} (hb : Below w.heap.size w W) (h : w.cell? p = some v) : W.cell? p = some v := (hb.cell (World.block_lt_of_cell? _ _ h)).trans h
theorem cell_off {w : World} {p : Addr} {c i : Nat} {v x : Value} (h : w.cell? p = some x) (hn : p.block ≠ c) : (w.setCell ⟨c, i, none⟩ v).cell? p = some x := by
  rw [World.cell?_setCell_far _ _ _ _ (fun e => hn e.symm)]; exact h
theorem row_blocks {α : Type} {d : Kd α} {t : Nat} {W w' : World} {A : Option Addr} {n c : Nat} {xs : List α} (hR : Kd.R d t w' W.heap.size (fun _ => True) (.slice A n c) xs) : ∀ ad, A = some ad → W.heap.size ≤ ad.block := fun ad e => by
  subst e
  exact ((Kd.R_bound hR).1 ad.block rfl).2.1
theorem hear_rowE {α : Type} {d : Kd α} {t : Nat} {W : World} {r : List α} {code : Int} {e : Ending} {w' : World} (hh : ∃ v0_ : Value, e = .returned (.tuple #[v0_, .int .i64 code]) ∧ Kd.R d t w' W.heap.size (fun _ => True) v0_ r ∧ Below W.heap.size W w') :
    ∃ A c, e = .returned (.tuple #[.slice A r.length c, .int .i64 code]) ∧ r.length ≤ c ∧ Kd.C d w' A r.length r ∧ (∀ ad, A = some ad → W.heap.size ≤ ad.block) ∧ Below W.heap.size W w' := by
  obtain ⟨v, rfl, hR, hb⟩ := hh
  obtain ⟨A, c, rfl⟩ := Kd.R_slice hR
  obtain ⟨_, hc, hC⟩ := Kd.R_reads' hR
  exact ⟨A, c, rfl, hc, hC, row_blocks hR, hb⟩
theorem row_readE {α : Type} {d : Kd α} {t : Nat} {W : World} {e : Ending} {w' : World} {xs : List α} (hh : ∃ v0_ : Value, e = .returned v0_ ∧ Kd.R d t w' W.heap.size (fun _ => True) v0_ xs ∧ Below W.heap.size W w') :
    ∃ A c, e = .returned (.slice A xs.length c) ∧ xs.length ≤ c ∧ Kd.C d w' A xs.length xs ∧ (∀ ad, A = some ad → W.heap.size ≤ ad.block) ∧ Below W.heap.size W w' := by
  obtain ⟨v, rfl, hR, hb⟩ := hh
  obtain ⟨A, c, rfl⟩ := Kd.R_slice hR
  obtain ⟨_, hc, hC⟩ := Kd.R_reads' hR
  exact ⟨A, c, rfl, hc, hC, row_blocks hR, hb⟩
theorem R_formsG {α : Type} {d : Kd α} {t : Nat} {w : World} {base : Nat} {v : Value} {xs : List α} (h : Kd.R d t w base (fun _ => True) v xs) : (v = .slice none 0 0 ∧ xs = []) ∨ ∃ g cap, v = .slice (some ⟨g, 0, none⟩) xs.length cap ∧ base ≤ g := by
  obtain ⟨h0, inner, ⟨hl, hown⟩, hr⟩ := h
  rcases hown with ⟨hv, hn⟩ | ⟨g, cap, cur, hv, hb, hh, hnc, hcm, hcs, hin⟩
  · exact .inl ⟨hv, List.length_eq_zero_iff.1 hn⟩
  · exact .inr ⟨g, cap, hv, hb⟩
theorem Laid.gr {g : Nat} {w W : World} (h : Laid w) (k : Gr g w W) (hg : g ≠ 0) : Laid W :=
  ⟨k.cell h.c0 (fun e => hg e.symm), k.cell h.c1 (fun e => hg e.symm), k.cell h.c2 (fun e => hg e.symm), k.cell h.c3 (fun e => hg e.symm), k.cell h.c4 (fun e => hg e.symm), k.cell h.c5 (fun e => hg e.symm)⟩
/-- A row of one word. -/
theorem one_word {W : World} {e : Ending} {w' : World} {x : S54} (hh : ∃ v0_ : Value, e = .returned v0_ ∧ Kd.R k54 54 w' W.heap.size (fun _ => True) v0_ [x] ∧ Below W.heap.size W w') :
    ∃ b c, e = .returned (.slice (some ⟨b, 0, none⟩) 1 c) ∧ 1 ≤ c ∧ Kd.C k54 w' (some ⟨b, 0, none⟩) 1 [x] ∧ W.heap.size ≤ b ∧ (w'.cell? ⟨b, 0, none⟩ = some (.int .i64 x.f0) ∧ w'.cell? ⟨b, 1, none⟩ = some (.int .i64 x.f1) ∧ w'.cell? ⟨b, 2, none⟩ = some (.int .i64 x.f2) ∧ w'.cell? ⟨b, 3, none⟩ = some (.int .i64 x.f3) ∧ w'.cell? ⟨b, 4, none⟩ = some (.int .i64 x.f4) ∧ w'.cell? ⟨b, 5, none⟩ = some (.int .i64 x.f5) ∧ w'.cell? ⟨b, 6, none⟩ = some (.int .i64 x.f6.f0) ∧ w'.cell? ⟨b, 7, none⟩ = some (.int .i64 x.f6.f1)) ∧ Below W.heap.size W w' := by
  obtain ⟨v, rfl, hR, hb⟩ := hh
  rcases R_formsG hR with ⟨rfl, h0⟩ | ⟨b, c, rfl, hg⟩
  · cases h0
  · obtain ⟨_, hc, hC⟩ := Kd.R_reads' hR
    obtain ⟨ad, ea, y0, y1, y2, y3, y4, y5, y6, y7⟩ := at_T54 hC 0 (by omega) (by simp)
    injection ea with ea
    subst ea
    exact ⟨b, c, rfl, hc, hC, hg, ⟨y0, y1, y2, y3, y4, y5, y6, y7⟩, hb⟩
def SG (g : Nat) (id ph sp no si tr : Int) (w : World) : Prop := w.cell? ⟨g, 0, none⟩ = some (.int .i64 id) ∧ w.cell? ⟨g, 1, none⟩ = some (.int .i64 ph) ∧ w.cell? ⟨g, 2, none⟩ = some (.int .i64 sp) ∧ w.cell? ⟨g, 3, none⟩ = some (.int .i64 no) ∧ w.cell? ⟨g, 4, none⟩ = some (.int .i64 si) ∧ w.cell? ⟨g, 5, none⟩ = some (.int .i64 tr)
theorem SG.alloc {g : Nat} {id ph sp no si tr : Int} {w : World} (o : Obj) (h : SG g id ph sp no si tr w) : SG g id ph sp no si tr (w.alloc o) := by
  obtain ⟨h0, h1, h2, h3, h4, h5⟩ := h
  exact ⟨cell_more h0, cell_more h1, cell_more h2, cell_more h3, cell_more h4, cell_more h5⟩
theorem SG.drew {g : Nat} {id ph sp no si tr : Int} {w : World} (h : SG g id ph sp no si tr w) : SG g id ph sp no si tr w.drew := by
  obtain ⟨h0, h1, h2, h3, h4, h5⟩ := h
  exact ⟨(World.cell?_drew _ _).trans h0, (World.cell?_drew _ _).trans h1, (World.cell?_drew _ _).trans h2, (World.cell?_drew _ _).trans h3, (World.cell?_drew _ _).trans h4, (World.cell?_drew _ _).trans h5⟩
theorem SG.call {g : Nat} {id ph sp no si tr : Int} {w w1 : World} (hb : Below w.heap.size w w1) (h : SG g id ph sp no si tr w) : SG g id ph sp no si tr w1 := by
  obtain ⟨h0, h1, h2, h3, h4, h5⟩ := h
  exact ⟨cell_later hb h0, cell_later hb h1, cell_later hb h2, cell_later hb h3, cell_later hb h4, cell_later hb h5⟩
theorem SG.set {g : Nat} {id ph sp no si tr : Int} {w : World} {bb i : Nat} {v : Value} (hn : g ≠ bb ∧ True) (h : SG g id ph sp no si tr w) : SG g id ph sp no si tr (w.setCell ⟨bb, i, none⟩ v) := by
  obtain ⟨n0, _⟩ := hn
  obtain ⟨h0, h1, h2, h3, h4, h5⟩ := h
  exact ⟨cell_off h0 n0, cell_off h1 n0, cell_off h2 n0, cell_off h3 n0, cell_off h4 n0, cell_off h5 n0⟩
theorem SG.ne {g : Nat} {id ph sp no si tr : Int} {w : World} (h : SG g id ph sp no si tr w) : g ≠ w.heap.size ∧ True := by
  obtain ⟨h0, h1, h2, h3, h4, h5⟩ := h
  exact ⟨Nat.ne_of_lt (World.block_lt_of_cell? _ _ h0), trivial⟩
theorem SG.ne1 {g : Nat} {id ph sp no si tr : Int} {w : World} (h : SG g id ph sp no si tr w) : g ≠ w.heap.size + 1 ∧ True := by
  obtain ⟨h0, h1, h2, h3, h4, h5⟩ := h
  have a0 := World.block_lt_of_cell? _ _ h0
  dsimp only at a0
  exact ⟨by omega, trivial⟩
theorem SG.mk {g : Nat} {id ph sp no si tr : Int} {w : World} (h0 : w.cell? ⟨g, 0, none⟩ = some (.int .i64 id)) (h1 : w.cell? ⟨g, 1, none⟩ = some (.int .i64 ph)) (h2 : w.cell? ⟨g, 2, none⟩ = some (.int .i64 sp)) (h3 : w.cell? ⟨g, 3, none⟩ = some (.int .i64 no)) (h4 : w.cell? ⟨g, 4, none⟩ = some (.int .i64 si)) (h5 : w.cell? ⟨g, 5, none⟩ = some (.int .i64 tr)) : SG g id ph sp no si tr w := ⟨h0, h1, h2, h3, h4, h5⟩
theorem SG.cells {g : Nat} {id ph sp no si tr : Int} {w : World} (h : SG g id ph sp no si tr w) : w.cell? ⟨g, 0, none⟩ = some (.int .i64 id) ∧ w.cell? ⟨g, 1, none⟩ = some (.int .i64 ph) ∧ w.cell? ⟨g, 2, none⟩ = some (.int .i64 sp) ∧ w.cell? ⟨g, 3, none⟩ = some (.int .i64 no) ∧ w.cell? ⟨g, 4, none⟩ = some (.int .i64 si) ∧ w.cell? ⟨g, 5, none⟩ = some (.int .i64 tr) := h
def SGW (g b : Nat) (id ph sp no si tr k0 k1 k2 k3 k4 k5 k6 k7 : Int) (w : World) : Prop := w.cell? ⟨g, 0, none⟩ = some (.int .i64 id) ∧ w.cell? ⟨g, 1, none⟩ = some (.int .i64 ph) ∧ w.cell? ⟨g, 2, none⟩ = some (.int .i64 sp) ∧ w.cell? ⟨g, 3, none⟩ = some (.int .i64 no) ∧ w.cell? ⟨g, 4, none⟩ = some (.int .i64 si) ∧ w.cell? ⟨g, 5, none⟩ = some (.int .i64 tr) ∧ w.cell? ⟨b, 0, none⟩ = some (.int .i64 k0) ∧ w.cell? ⟨b, 1, none⟩ = some (.int .i64 k1) ∧ w.cell? ⟨b, 2, none⟩ = some (.int .i64 k2) ∧ w.cell? ⟨b, 3, none⟩ = some (.int .i64 k3) ∧ w.cell? ⟨b, 4, none⟩ = some (.int .i64 k4) ∧ w.cell? ⟨b, 5, none⟩ = some (.int .i64 k5) ∧ w.cell? ⟨b, 6, none⟩ = some (.int .i64 k6) ∧ w.cell? ⟨b, 7, none⟩ = some (.int .i64 k7)
theorem SGW.alloc {g b : Nat} {id ph sp no si tr k0 k1 k2 k3 k4 k5 k6 k7 : Int} {w : World} (o : Obj) (h : SGW g b id ph sp no si tr k0 k1 k2 k3 k4 k5 k6 k7 w) : SGW g b id ph sp no si tr k0 k1 k2 k3 k4 k5 k6 k7 (w.alloc o) := by
  obtain ⟨h0, h1, h2, h3, h4, h5, h6, h7, h8, h9, h10, h11, h12, h13⟩ := h
  exact ⟨cell_more h0, cell_more h1, cell_more h2, cell_more h3, cell_more h4, cell_more h5, cell_more h6, cell_more h7, cell_more h8, cell_more h9, cell_more h10, cell_more h11, cell_more h12, cell_more h13⟩
theorem SGW.drew {g b : Nat} {id ph sp no si tr k0 k1 k2 k3 k4 k5 k6 k7 : Int} {w : World} (h : SGW g b id ph sp no si tr k0 k1 k2 k3 k4 k5 k6 k7 w) : SGW g b id ph sp no si tr k0 k1 k2 k3 k4 k5 k6 k7 w.drew := by
  obtain ⟨h0, h1, h2, h3, h4, h5, h6, h7, h8, h9, h10, h11, h12, h13⟩ := h
  exact ⟨(World.cell?_drew _ _).trans h0, (World.cell?_drew _ _).trans h1, (World.cell?_drew _ _).trans h2, (World.cell?_drew _ _).trans h3, (World.cell?_drew _ _).trans h4, (World.cell?_drew _ _).trans h5, (World.cell?_drew _ _).trans h6, (World.cell?_drew _ _).trans h7, (World.cell?_drew _ _).trans h8, (World.cell?_drew _ _).trans h9, (World.cell?_drew _ _).trans h10, (World.cell?_drew _ _).trans h11, (World.cell?_drew _ _).trans h12, (World.cell?_drew _ _).trans h13⟩
theorem SGW.call {g b : Nat} {id ph sp no si tr k0 k1 k2 k3 k4 k5 k6 k7 : Int} {w w1 : World} (hb : Below w.heap.size w w1) (h : SGW g b id ph sp no si tr k0 k1 k2 k3 k4 k5 k6 k7 w) : SGW g b id ph sp no si tr k0 k1 k2 k3 k4 k5 k6 k7 w1 := by
  obtain ⟨h0, h1, h2, h3, h4, h5, h6, h7, h8, h9, h10, h11, h12, h13⟩ := h
  exact ⟨cell_later hb h0, cell_later hb h1, cell_later hb h2, cell_later hb h3, cell_later hb h4, cell_later hb h5, cell_later hb h6, cell_later hb h7, cell_later hb h8, cell_later hb h9, cell_later hb h10, cell_later hb h11, cell_later hb h12, cell_later hb h13⟩
theorem SGW.set {g b : Nat} {id ph sp no si tr k0 k1 k2 k3 k4 k5 k6 k7 : Int} {w : World} {bb i : Nat} {v : Value} (hn : g ≠ bb ∧ b ≠ bb) (h : SGW g b id ph sp no si tr k0 k1 k2 k3 k4 k5 k6 k7 w) : SGW g b id ph sp no si tr k0 k1 k2 k3 k4 k5 k6 k7 (w.setCell ⟨bb, i, none⟩ v) := by
  obtain ⟨n0, n1⟩ := hn
  obtain ⟨h0, h1, h2, h3, h4, h5, h6, h7, h8, h9, h10, h11, h12, h13⟩ := h
  exact ⟨cell_off h0 n0, cell_off h1 n0, cell_off h2 n0, cell_off h3 n0, cell_off h4 n0, cell_off h5 n0, cell_off h6 n1, cell_off h7 n1, cell_off h8 n1, cell_off h9 n1, cell_off h10 n1, cell_off h11 n1, cell_off h12 n1, cell_off h13 n1⟩
theorem SGW.ne {g b : Nat} {id ph sp no si tr k0 k1 k2 k3 k4 k5 k6 k7 : Int} {w : World} (h : SGW g b id ph sp no si tr k0 k1 k2 k3 k4 k5 k6 k7 w) : g ≠ w.heap.size ∧ b ≠ w.heap.size := by
  obtain ⟨h0, h1, h2, h3, h4, h5, h6, h7, h8, h9, h10, h11, h12, h13⟩ := h
  exact ⟨Nat.ne_of_lt (World.block_lt_of_cell? _ _ h0), Nat.ne_of_lt (World.block_lt_of_cell? _ _ h6)⟩
theorem SGW.ne1 {g b : Nat} {id ph sp no si tr k0 k1 k2 k3 k4 k5 k6 k7 : Int} {w : World} (h : SGW g b id ph sp no si tr k0 k1 k2 k3 k4 k5 k6 k7 w) : g ≠ w.heap.size + 1 ∧ b ≠ w.heap.size + 1 := by
  obtain ⟨h0, h1, h2, h3, h4, h5, h6, h7, h8, h9, h10, h11, h12, h13⟩ := h
  have a0 := World.block_lt_of_cell? _ _ h0
  dsimp only at a0
  have a1 := World.block_lt_of_cell? _ _ h6
  dsimp only at a1
  exact ⟨by omega, by omega⟩
theorem SGW.mk {g b : Nat} {id ph sp no si tr k0 k1 k2 k3 k4 k5 k6 k7 : Int} {w : World} (h0 : w.cell? ⟨g, 0, none⟩ = some (.int .i64 id)) (h1 : w.cell? ⟨g, 1, none⟩ = some (.int .i64 ph)) (h2 : w.cell? ⟨g, 2, none⟩ = some (.int .i64 sp)) (h3 : w.cell? ⟨g, 3, none⟩ = some (.int .i64 no)) (h4 : w.cell? ⟨g, 4, none⟩ = some (.int .i64 si)) (h5 : w.cell? ⟨g, 5, none⟩ = some (.int .i64 tr)) (h6 : w.cell? ⟨b, 0, none⟩ = some (.int .i64 k0)) (h7 : w.cell? ⟨b, 1, none⟩ = some (.int .i64 k1)) (h8 : w.cell? ⟨b, 2, none⟩ = some (.int .i64 k2)) (h9 : w.cell? ⟨b, 3, none⟩ = some (.int .i64 k3)) (h10 : w.cell? ⟨b, 4, none⟩ = some (.int .i64 k4)) (h11 : w.cell? ⟨b, 5, none⟩ = some (.int .i64 k5)) (h12 : w.cell? ⟨b, 6, none⟩ = some (.int .i64 k6)) (h13 : w.cell? ⟨b, 7, none⟩ = some (.int .i64 k7)) : SGW g b id ph sp no si tr k0 k1 k2 k3 k4 k5 k6 k7 w := ⟨h0, h1, h2, h3, h4, h5, h6, h7, h8, h9, h10, h11, h12, h13⟩
theorem SGW.cells {g b : Nat} {id ph sp no si tr k0 k1 k2 k3 k4 k5 k6 k7 : Int} {w : World} (h : SGW g b id ph sp no si tr k0 k1 k2 k3 k4 k5 k6 k7 w) : w.cell? ⟨g, 0, none⟩ = some (.int .i64 id) ∧ w.cell? ⟨g, 1, none⟩ = some (.int .i64 ph) ∧ w.cell? ⟨g, 2, none⟩ = some (.int .i64 sp) ∧ w.cell? ⟨g, 3, none⟩ = some (.int .i64 no) ∧ w.cell? ⟨g, 4, none⟩ = some (.int .i64 si) ∧ w.cell? ⟨g, 5, none⟩ = some (.int .i64 tr) ∧ w.cell? ⟨b, 0, none⟩ = some (.int .i64 k0) ∧ w.cell? ⟨b, 1, none⟩ = some (.int .i64 k1) ∧ w.cell? ⟨b, 2, none⟩ = some (.int .i64 k2) ∧ w.cell? ⟨b, 3, none⟩ = some (.int .i64 k3) ∧ w.cell? ⟨b, 4, none⟩ = some (.int .i64 k4) ∧ w.cell? ⟨b, 5, none⟩ = some (.int .i64 k5) ∧ w.cell? ⟨b, 6, none⟩ = some (.int .i64 k6) ∧ w.cell? ⟨b, 7, none⟩ = some (.int .i64 k7) := h
set_option maxHeartbeats 40000000 in
theorem ask14 (g : Nat) (id bt me fr no t1 : Int) (r : List S68) (w : World) (hG : Laid w) (hs : SG g id 0 (-1) 0 0 0 w) (hz : ∀ o, w.frozen? ⟨g, o, none⟩ = false)
    (hA : ∀ w : World, Calls Tryd.prog 39 #[.agg #[.int .i64 0, .int .i64 (-1), .int .i64 0, .int .i64 0, .int .i64 0], .int .i64 id, .int .i64 bt, .int .i64 me, .int .i64 fr] w fun e w' => e = .returned (.tuple #[.agg #[.int .i64 1, .int .i64 me, .int .i64 no, .int .i64 fr, .int .i64 t1], .agg #[.int .i64 1, .int .i64 id, .int .i64 me, .int .i64 no, .int .i64 0, .int .i64 0, .int .i64 0, .int .i64 0], .int .i64 0]) ∧ Below w.heap.size w w')
    (hh : sponsor_Hear.f [] me 1 id me no 0 0 0 0 fr = some (r, 0)) :
    Calls Tryd.prog 20 #[.pointer (some ⟨g, 0, none⟩), .slice none 0 0, .int .i64 bt, .int .i64 me, .int .i64 fr] w fun e w' => ∃ A c, e = .returned (.tuple #[.slice A r.length c, .bool true]) ∧ r.length ≤ c ∧ Kd.C k68 w' A r.length r ∧ (∀ ad, A = some ad → w.heap.size ≤ ad.block) ∧ Gr g w w' ∧ SG g id 1 me no fr t1 w' ∧ (∀ o, w'.frozen? ⟨g, o, none⟩ = false) := by
  have HG := Aside0.mk hG
  have HA := Aside0.mk hA
  have HH := Aside0.mk hh
  have q0 := hs
  have n0 := q0.ne
  have m0 := q0.ne1
  obtain ⟨z0, z1, z2, z3, z4, z5⟩ := hs.cells
  have HZ := Lib.hid hz
  have hgl := World.block_lt_of_cell? _ _ z0
  have hu54 := Tryd.underlying54
  clear hG hA hh hz hs
  go_enter Tryd.func20, Tryd.ntmps20
  go_upto_region 1 with (fail)
  go_cut [12, 13, 14] (fun v12 v13 v14 wc => ∃ g1 g2 : Nat, v12 = .pointer (some ⟨g1, 0, none⟩) ∧ v13 = .pointer (some ⟨g2, 0, none⟩) ∧ v14 = .int .i64 0 ∧ (wc.cell? ⟨g1, 0, none⟩ = some (.int .i64 1) ∧ wc.cell? ⟨g1, 1, none⟩ = some (.int .i64 me) ∧ wc.cell? ⟨g1, 2, none⟩ = some (.int .i64 no) ∧ wc.cell? ⟨g1, 3, none⟩ = some (.int .i64 fr) ∧ wc.cell? ⟨g1, 4, none⟩ = some (.int .i64 t1)) ∧ (wc.cell? ⟨g2, 0, none⟩ = some (.int .i64 1) ∧ wc.cell? ⟨g2, 1, none⟩ = some (.int .i64 id) ∧ wc.cell? ⟨g2, 2, none⟩ = some (.int .i64 me) ∧ wc.cell? ⟨g2, 3, none⟩ = some (.int .i64 no) ∧ wc.cell? ⟨g2, 4, none⟩ = some (.int .i64 0) ∧ wc.cell? ⟨g2, 5, none⟩ = some (.int .i64 0) ∧ wc.cell? ⟨g2, 6, none⟩ = some (.int .i64 0) ∧ wc.cell? ⟨g2, 7, none⟩ = some (.int .i64 0)) ∧ w.heap.size ≤ g1 ∧ Aside0 (Below w.heap.size w wc))
  case first =>
    go_region_held3 (fun w' => w'.cell? ⟨g, 0, none⟩ = some (.int .i64 id) ∧ w'.cell? ⟨g, 1, none⟩ = some (.int .i64 0) ∧ w'.cell? ⟨g, 2, none⟩ = some (.int .i64 (-1)) ∧ w'.cell? ⟨g, 3, none⟩ = some (.int .i64 0) ∧ w'.cell? ⟨g, 4, none⟩ = some (.int .i64 0) ∧ w'.cell? ⟨g, 5, none⟩ = some (.int .i64 0)) ((show SG g id 0 (-1) 0 0 0 _; repeat' (first | (with_reducible assumption) | (with_reducible refine SG.alloc _ ?_) | (with_reducible refine SG.drew ?_) | (with_reducible refine SG.set ?_ ?_)))) (first | (go_at_call 39; refine (HA.out _).mono ?_; rintro e w7 ⟨rfl, hb⟩; have hb7 := hb; (try (first | ((with_reducible have hx_ := seen2d hb); obtain ⟨⟨sc60, sf60, sz60⟩, ⟨sc61, sf61, sz61⟩⟩ := hx_) | ((with_reducible have hx_ := seen1d hb); obtain ⟨sc60, sf60, sz60⟩ := hx_) | ((with_reducible have hx_ := seen2 hb); obtain ⟨⟨sc60, sf60, sz60⟩, ⟨sc61, sf61, sz61⟩⟩ := hx_) | ((with_reducible have hx_ := seen1 hb); obtain ⟨sc60, sf60, sz60⟩ := hx_))); have qq7 : SG g id 0 (-1) 0 0 0 _ := SG.call hb (by assumption); have n7 := qq7.ne; have m7 := qq7.ne1))
    all_goals
      have hb7s := hb7.size
      simp at hb7s
      try go_wp2_with (fail)
      go_meet
      refine ⟨_, _, rfl, rfl, rfl, ⟨?_, ?_, ?_, ?_, ?_⟩, ⟨?_, ?_, ?_, ?_, ?_, ?_, ?_, ?_⟩, ?_, ⟨?_⟩⟩
      rotate_right
      · repeat (first | (with_reducible exact Below.refl _ _) | (with_reducible refine ra_drewN ?_ _) | (with_reducible refine ra_drew ?_) | (with_reducible refine ra_alloc ?_ _) | (with_reducible refine ra_set ?_ _ (by first | (simp; done) | (simp; omega) | omega)) | (with_reducible refine ra_step ?_ hb7))
      all_goals clear HG HA HH q0 z0 z1 z2 z3 z4 z5
      any_goals (first | (simp [go_sem]; done) | (simp [go_sem, *]; done))
      all_goals (first | omega | (simp; omega))
  case rest =>
    obtain ⟨g1, g2, rfl, rfl, rfl, ⟨j0, j1, j2, j3, j4⟩, ⟨k0, k1, k2, k3, k4, k5, k6, k7⟩, hg1, B1⟩ := hcut
    have hg1l := World.block_lt_of_cell? _ _ j0
    clear q0 n0 m0
    go_wp2_with (first
      | (go_at_call 26; refine (sponsor_Hear.calls none 0 [] me 1 id me no 0 0 0 0 fr r 0 _ (HG.out.later (by repeat (first | with_reducible (first | exact Below.refl _ _ | exact B1.out | refine ra_drewN ?_ _ | refine ra_drew ?_ | refine ra_alloc ?_ _) | with_reducible refine ra_set ?_ _ (by (first | omega | (simp; omega)))))) (Kd.C_nil _ _) (Nat.le_refl _) HH.out).mono ?_; rintro e w8 hh; obtain ⟨A8, c8, rfl, hc8, hC8, hA8, hb⟩ := hear_rowE hh; clear hh; have hx8 := fun o => hb.cell (p := ⟨g1, o, none⟩) hg1l; have hgz8 := fun o => (hb.frozen (p := ⟨g, o, none⟩) (Nat.lt_of_lt_of_le hgl B1.out.size)).trans ((B1.out.frozen (p := ⟨g, o, none⟩) hgl).trans (HZ.out o)); have y0 := (hb.cell (p := ⟨g, 0, none⟩) (Nat.lt_of_lt_of_le hgl B1.out.size)).trans ((B1.out.cell (p := ⟨g, 0, none⟩) hgl).trans z0); have y1 := (hb.cell (p := ⟨g, 1, none⟩) (Nat.lt_of_lt_of_le hgl B1.out.size)).trans ((B1.out.cell (p := ⟨g, 1, none⟩) hgl).trans z1); have y2 := (hb.cell (p := ⟨g, 2, none⟩) (Nat.lt_of_lt_of_le hgl B1.out.size)).trans ((B1.out.cell (p := ⟨g, 2, none⟩) hgl).trans z2); have y3 := (hb.cell (p := ⟨g, 3, none⟩) (Nat.lt_of_lt_of_le hgl B1.out.size)).trans ((B1.out.cell (p := ⟨g, 3, none⟩) hgl).trans z3); have y4 := (hb.cell (p := ⟨g, 4, none⟩) (Nat.lt_of_lt_of_le hgl B1.out.size)).trans ((B1.out.cell (p := ⟨g, 4, none⟩) hgl).trans z4); have y5 := (hb.cell (p := ⟨g, 5, none⟩) (Nat.lt_of_lt_of_le hgl B1.out.size)).trans ((B1.out.cell (p := ⟨g, 5, none⟩) hgl).trans z5); have HB8 := Aside0.mk (ra_step B1.out hb); have HC8 := Aside0.mk hC8; have HA8 := Aside0.mk hA8; have H8 := Aside0.mk hc8; clear hb hC8 hA8 hc8))
    have gS : Gr g w8 (((((w8.setCell ⟨g, 1, none⟩ (.int .i64 1)).setCell ⟨g, 2, none⟩ (.int .i64 me)).setCell ⟨g, 3, none⟩ (.int .i64 no)).setCell ⟨g, 4, none⟩ (.int .i64 fr)).setCell ⟨g, 5, none⟩ (.int .i64 t1)) := Gr.own (Gr.own (Gr.own (Gr.own (Gr.own (Gr.refl g w8) _) _) _) _) _
    go_ret2
    exact ⟨_, _, rfl, H8.out, Gr.C68 gS HC8.out (fun ad e => by have := HA8.out ad e; have := B1.out.size; omega), fun ad e => Nat.le_trans B1.out.size (HA8.out ad e), Gr.trans (Gr.of_below HB8.out) gS, SG.mk (by simp [go_sem, y0, y1, y2, y3, y4, y5]) (by simp [go_sem, y0, y1, y2, y3, y4, y5]) (by simp [go_sem, y0, y1, y2, y3, y4, y5]) (by simp [go_sem, y0, y1, y2, y3, y4, y5]) (by simp [go_sem, y0, y1, y2, y3, y4, y5]) (by simp [go_sem, y0, y1, y2, y3, y4, y5]), fun o => by simp [go_sem, hgz8]⟩
end Go.Proofs.YtncgeclkgmfppaaDoor.H
