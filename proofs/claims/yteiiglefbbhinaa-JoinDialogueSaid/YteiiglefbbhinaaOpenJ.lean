/-
  What the arguments of a law are: numbers, states, words, rings, two bytes, a list of words that can be read.
-/
import Derived.Test.YteiiglefbbhinaaProg
import Derived.Test.YteiiglefbbhinaaBase
import Derived.ProofKit
import Derived.ChangeOld
import Derived.ChangeArms
import Derived.OpenShut
import Derived.Deep.Fields
import Derived.Deep.Slices
import Derived.KernelRfl
namespace Go.Proofs.Yteiiglefbbhinaa
open Go.ChangeShapes Go.WideShapes Go.ChangeAt Go.RowKit Go.Deep
set_option linter.unusedVariables false
set_option linter.unusedSimpArgs false

section
variable {H : Type} {enc : TypeId × Value → H} {P : Program} {w : World} {base : Nat} {spare : Nat → Bool} {held : Bool}
/-- The reading of each field of a struct, out of its cells. -/
theorem fields_of {t : TypeId} {fs : Array Field} {cs : List Value} {fuel : Nat} {z : DataW H × List MemPlace} (hs : P.underlying t = some (.struct fs)) (h : DataW.trod enc P w base spare held fuel t cs = some z) :
    ∃ n : Nat, cs.length = P.cellsOf t ∧ ∀ (i : Nat) (f : Field), fs[i]? = some f → ∃ y, DataW.trod enc P w base spare held n f.type ((cs.drop f.offset).take (P.cellsOf f.type)) = some y := by
  obtain ⟨xs, n, _, _, hc, hl, hg⟩ := DataW.trod_struct hs h
  refine ⟨n, hc, fun i f hi => ?_⟩
  have hlt : i < xs.length := by rw [hl]; exact (Array.getElem?_eq_some_iff.1 hi).1
  refine ⟨xs[i], ?_⟩
  rw [← List.getElem?_eq_getElem hlt]
  exact hg i f hi
theorem cells_of {r : Reach} {b0 : Nat} {t : TypeId} {fs : Array Field} {v : Value} {d : DataW H} {p : List MemPlace} (hs : P.underlying t = some (.struct fs))
    (hv : Value.okWide P w r b0 t v) (h : DataW.Trod enc P w base spare held t v d p) :
    ∃ (cs : List Value) (n : Nat) (z : DataW H × List MemPlace), v = .agg cs.toArray ∧ DataW.trod enc P w base spare held n t cs = some z := by
  obtain ⟨⟨cs⟩, rfl, hsz⟩ := okWide_struct hs hv
  obtain ⟨fuel, hf⟩ := h
  exact ⟨cs, fuel, _, rfl, hf⟩
end
variable {H : Type} {enc : TypeId × Value → H} {w : World} {base : Nat} {spare : Nat → Bool} {held : Bool} {r : Reach} {b0 : Nat} {v : Value} {d : DataW H} {p : List MemPlace}
theorem int_of (hv : Value.okWide Try.prog w r b0 3 v) (h : DataW.Trod enc Try.prog w base spare held 3 v d p) :
    ∃ x : Int, v = .int .i64 x ∧ (-9223372036854775808 ≤ x ∧ x ≤ 9223372036854775807) := by
  obtain ⟨x, rfl, _, _, hw⟩ := open_int Try.underlying3 hv h
  simp [Lit.wf, IntKind.min, IntKind.max, IntKind.signed, IntKind.bits] at hw
  exact ⟨x, rfl, by omega⟩
theorem ring_cells {fuel : Nat} {cs : List Value} {z : DataW H × List MemPlace} (h : DataW.trod enc Try.prog w base spare held fuel 25 cs = some z) :
    ∃ x y : Int, cs = [.int .i64 x, .int .i64 y] := by
  obtain ⟨n, hl, hg⟩ := fields_of Try.underlying25 h
  have e : Try.prog.cellsOf 25 = 2 := by kernel_rfl
  rw [e] at hl
  match cs, hl with
  | [c0, c1], _ =>
    have ei : Try.prog.cellsOf 3 = 1 := by kernel_rfl
    obtain ⟨y0, h0⟩ := hg 0 _ rfl
    obtain ⟨y1, h1⟩ := hg 1 _ rfl
    simp [ei] at h0 h1
    obtain ⟨x0, e0, _, _⟩ := DataW.trod_int Try.underlying3 h0
    obtain ⟨x1, e1, _, _⟩ := DataW.trod_int Try.underlying3 h1
    simp only [List.cons.injEq, and_true] at e0 e1
    subst e0 e1
    exact ⟨x0, x1, rfl⟩
theorem ring_of (hv : Value.okWide Try.prog w r b0 25 v) (h : DataW.Trod enc Try.prog w base spare held 25 v d p) :
    ∃ x y : Int, v = .agg #[.int .i64 x, .int .i64 y] := by
  obtain ⟨cs, n, z, rfl, hc⟩ := cells_of Try.underlying25 hv h
  obtain ⟨x, y, rfl⟩ := ring_cells hc
  exact ⟨x, y, rfl⟩
theorem join_of (hv : Value.okWide Try.prog w r b0 23 v) (h : DataW.Trod enc Try.prog w base spare held 23 v d p) :
    ∃ a b c d e : Int, v = .agg #[.int .i64 a, .int .i64 b, .int .i64 c, .int .i64 d, .int .i64 e] := by
  obtain ⟨cs, n, z, rfl, hc⟩ := cells_of Try.underlying23 hv h
  obtain ⟨n, hl, hg⟩ := fields_of Try.underlying23 hc
  have e : Try.prog.cellsOf 23 = 5 := by kernel_rfl
  rw [e] at hl
  match cs, hl with
  | [c0, c1, c2, c3, c4], _ =>
    have ei : Try.prog.cellsOf 3 = 1 := by kernel_rfl
    obtain ⟨y0, h0⟩ := hg 0 _ rfl
    obtain ⟨y1, h1⟩ := hg 1 _ rfl
    obtain ⟨y2, h2⟩ := hg 2 _ rfl
    obtain ⟨y3, h3⟩ := hg 3 _ rfl
    obtain ⟨y4, h4⟩ := hg 4 _ rfl
    simp [ei] at h0 h1 h2 h3 h4
    obtain ⟨x0, e0, _, _⟩ := DataW.trod_int Try.underlying3 h0
    obtain ⟨x1, e1, _, _⟩ := DataW.trod_int Try.underlying3 h1
    obtain ⟨x2, e2, _, _⟩ := DataW.trod_int Try.underlying3 h2
    obtain ⟨x3, e3, _, _⟩ := DataW.trod_int Try.underlying3 h3
    obtain ⟨x4, e4, _, _⟩ := DataW.trod_int Try.underlying3 h4
    simp only [List.cons.injEq, and_true] at e0 e1 e2 e3 e4
    subst e0 e1 e2 e3 e4
    exact ⟨x0, x1, x2, x3, x4, rfl⟩
theorem word_cells {fuel : Nat} {cs : List Value} {z : DataW H × List MemPlace} (h : DataW.trod enc Try.prog w base spare held fuel 27 cs = some z) :
    ∃ a0 a1 a2 a3 a4 a5 a6 a7 : Int, cs = [.int .i64 a0, .int .i64 a1, .int .i64 a2, .int .i64 a3, .int .i64 a4, .int .i64 a5, .int .i64 a6, .int .i64 a7] := by
  obtain ⟨n, hl, hg⟩ := fields_of Try.underlying27 h
  have e : Try.prog.cellsOf 27 = 8 := by kernel_rfl
  rw [e] at hl
  match cs, hl with
  | [c0, c1, c2, c3, c4, c5, c6, c7], _ =>
    have ei : Try.prog.cellsOf 3 = 1 := by kernel_rfl
    have er : Try.prog.cellsOf 25 = 2 := by kernel_rfl
    obtain ⟨y0, h0⟩ := hg 0 _ rfl
    obtain ⟨y1, h1⟩ := hg 1 _ rfl
    obtain ⟨y2, h2⟩ := hg 2 _ rfl
    obtain ⟨y3, h3⟩ := hg 3 _ rfl
    obtain ⟨y4, h4⟩ := hg 4 _ rfl
    obtain ⟨y5, h5⟩ := hg 5 _ rfl
    obtain ⟨y6, h6⟩ := hg 6 _ rfl
    simp [ei, er] at h0 h1 h2 h3 h4 h5 h6
    obtain ⟨x0, e0, _, _⟩ := DataW.trod_int Try.underlying3 h0
    obtain ⟨x1, e1, _, _⟩ := DataW.trod_int Try.underlying3 h1
    obtain ⟨x2, e2, _, _⟩ := DataW.trod_int Try.underlying3 h2
    obtain ⟨x3, e3, _, _⟩ := DataW.trod_int Try.underlying3 h3
    obtain ⟨x4, e4, _, _⟩ := DataW.trod_int Try.underlying3 h4
    obtain ⟨x5, e5, _, _⟩ := DataW.trod_int Try.underlying3 h5
    obtain ⟨x6, x7, e6⟩ := ring_cells h6
    simp only [List.cons.injEq, and_true] at e0 e1 e2 e3 e4 e5 e6
    obtain ⟨e6, e7⟩ := e6
    subst e0 e1 e2 e3 e4 e5 e6 e7
    exact ⟨x0, x1, x2, x3, x4, x5, x6, x7, rfl⟩
theorem word_of (hv : Value.okWide Try.prog w r b0 27 v) (h : DataW.Trod enc Try.prog w base spare held 27 v d p) :
    ∃ a0 a1 a2 a3 a4 a5 a6 a7 : Int, v = .agg #[.int .i64 a0, .int .i64 a1, .int .i64 a2, .int .i64 a3, .int .i64 a4, .int .i64 a5, .int .i64 a6, .int .i64 a7] := by
  obtain ⟨cs, n, z, rfl, hc⟩ := cells_of Try.underlying27 hv h
  obtain ⟨x0, x1, x2, x3, x4, x5, x6, x7, rfl⟩ := word_cells hc
  exact ⟨x0, x1, x2, x3, x4, x5, x6, x7, rfl⟩
/-- A list of words that can be read. -/
def Words (w : World) (A : Option Addr) (n : Nat) : Prop := n ≤ maxLen ∧ (0 < n → ∃ b off, A = some ⟨b, off, none⟩ ∧ ∀ i < n, ∃ a : Nat → Int, ∀ j < 8, w.cell? ⟨b, off + (i * 8 + j), none⟩ = some (.int .i64 (a j)))
theorem words_of (hv : Value.okWide Try.prog w r b0 40 v) (h : DataW.Trod enc Try.prog w base spare held 40 v d p) :
    ∃ A n c, v = .slice A n c ∧ Words w A n := by
  obtain ⟨a0, len, cap, rfl⟩ := okWide_slice Try.underlying40 hv
  refine ⟨a0, len, cap, rfl, ?_⟩
  obtain ⟨fuel, hf⟩ := h
  rcases open_slice Try.underlying40 hf with ⟨e, _⟩ | ⟨a, l, c, m, n, D, Pl, e, hb, hl, hm, hmm, _, hi⟩
  · simp [Value.cells] at e
    obtain ⟨rfl, rfl, rfl⟩ := e
    exact ⟨by simp, fun h => absurd h (by omega)⟩
  · simp [Value.cells] at e
    obtain ⟨rfl, rfl, rfl⟩ := e
    refine ⟨Nat.le_trans hl hm, fun hn => ?_⟩
    have hml : len ≤ m := by rw [hmm]; split <;> omega
    have e8 : Try.prog.cellsOf 27 = 8 := by kernel_rfl
    obtain ⟨b, off, spot⟩ := a
    have key : ∀ i < len, ∃ a : Nat → Int, ∀ j < 8, w.cell? ((Addr.mk b off spot).add (i * 8 + j)) = some (.int .i64 (a j)) := by
      intro i him
      obtain ⟨cs, hc, ht⟩ := hi i (by omega)
      rw [e8] at hc
      obtain ⟨x0, x1, x2, x3, x4, x5, x6, x7, rfl⟩ := word_cells ht
      obtain ⟨_, _, hat⟩ := World.cells?_some hc
      refine ⟨fun j => [x0, x1, x2, x3, x4, x5, x6, x7].getD j 0, fun j hj => ?_⟩
      have hx := hat j hj
      rw [Go.Deep.add_add] at hx
      rw [hx]
      rcases j with _ | _ | _ | _ | _ | _ | _ | _ | j
      all_goals first | rfl | omega
    have hspot : spot = none := by
      obtain ⟨a, ha⟩ := key 0 hn
      have := ha 0 (by omega)
      simpa [Addr.add] using World.cell?_spot this
    subst hspot
    refine ⟨b, off, rfl, fun i hi => ?_⟩
    obtain ⟨a, ha⟩ := key i hi
    refine ⟨a, fun j hj => ?_⟩
    have := ha j hj
    unfold Addr.add at this
    split at this
    · rename_i h0; rw [h0]; simpa using this
    · exact this
theorem two_of (hv : Value.okWide Try.prog w r b0 38 v) (h : DataW.Trod enc Try.prog w base spare held 38 v d p) :
    ∃ a b : Int, v = .agg #[.int .u8 a, .int .u8 b] ∧ (0 ≤ a ∧ a ≤ 255) ∧ (0 ≤ b ∧ b ≤ 255) := by
  obtain ⟨⟨cs⟩, rfl, hsz⟩ : ∃ cs, v = .agg cs ∧ cs.size = Try.prog.cellsOf 38 := by
    simp only [Value.okWide, Try.underlying38] at hv
    obtain ⟨cs, h1, h2, _⟩ := hv
    exact ⟨cs, h1, h2⟩
  obtain ⟨fuel, hf⟩ := h
  obtain ⟨xs, m, _, _, hl, hx, hg⟩ := DataW.trod_array Try.underlying38 hf
  have e : Try.prog.cellsOf 38 = 2 := by kernel_rfl
  rw [e] at hl
  simp only [Value.cells] at hl hg
  match cs, hl with
  | [c0, c1], _ =>
    have ei : Try.prog.cellsOf 5 = 1 := by kernel_rfl
    have h0 := hg 0 (by omega)
    have h1 := hg 1 (by omega)
    rw [List.getElem?_eq_getElem (by omega)] at h0 h1
    simp [ei] at h0 h1
    obtain ⟨x0, e0, _, w0⟩ := DataW.trod_int Try.underlying5 h0
    obtain ⟨x1, e1, _, w1⟩ := DataW.trod_int Try.underlying5 h1
    simp only [List.cons.injEq, and_true] at e0 e1
    subst e0 e1
    simp [Lit.wf, IntKind.min, IntKind.max, IntKind.signed, IntKind.bits] at w0 w1
    exact ⟨x0, x1, rfl, by omega, by omega⟩
end Go.Proofs.Yteiiglefbbhinaa
